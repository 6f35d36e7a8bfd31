/- Collections as they are drawn. -/
import Derived.Test.YtplmjmhanplimaaDoorQThree
import Derived.Test.YtplmjmhanplimaaDoorSxFour
set_option linter.unusedVariables false
set_option linter.unusedSimpArgs false
namespace Go.Sx.Sp
open Go Go.Sx Go.Proofs
attribute [local irreducible] GoodW
def aliveB (v : Int) (x : Item) : Bool := decide (x.from_ ≤ v ∧ (x.until_ = 0 ∨ v < x.until_))
end Go.Sx.Sp
namespace Go.Sx.Sp
open Go Go.Sx Go.Proofs
attribute [local irreducible] GoodW
end Go.Sx.Sp
namespace Go.Sx.Sp
open Go Go.Sx Go.Proofs
attribute [local irreducible] GoodW
end Go.Sx.Sp
namespace Go.Sx.Sp
open Go Go.Sx Go.Proofs
attribute [local irreducible] GoodW
end Go.Sx.Sp
namespace Go.Sx.Sp
open Go Go.Sx Go.Proofs
theorem itemsOK_iff (v : Int) : ∀ (d l : List Item), itemsOK v d l = true ↔ (∀ x ∈ l, properB v x = true) ∧ (∀ x ∈ l, ∀ y ∈ d, clashB x y = false) ∧ l.Pairwise (fun y x => clashB x y = false)
  | d, [] => by simp [itemsOK]
  | d, x :: r => by
    simp only [itemsOK, Bool.and_eq_true, Bool.not_eq_true', List.any_eq_false, itemsOK_iff v (d ++ [x]) r, List.mem_cons, List.pairwise_cons, List.mem_append, List.not_mem_nil, or_false]
    constructor
    · rintro ⟨⟨h1, h2⟩, h3, h4, h5⟩
      refine ⟨?_, ?_, ?_, h5⟩
      · rintro y (rfl | hy)
        · exact h1
        · exact h3 y hy
      · rintro y (rfl | hy) z hz
        · exact by simpa using h2 z hz
        · exact h4 y hy z (.inl hz)
      · intro y hy
        exact h4 y hy x (.inr rfl)
    · rintro ⟨h1, h2, h3, h4⟩
      refine ⟨⟨h1 x (.inl rfl), fun y hy => by simpa using h2 x (.inl rfl) y hy⟩, fun y hy => h1 y (.inr hy), ?_, h4⟩
      rintro y hy z (hz | rfl)
      · exact h2 y (.inr hy) z hz
      · exact h3 y hy
theorem collB_iff (c : Coll) : collB c = true ↔ (0 ≤ c.oldest ∧ c.oldest ≤ c.version ∧ c.version ≤ 1073741824 ∧ c.items.length ≤ 1024) ∧ (∀ x ∈ c.items, properB c.version x = true) ∧ c.items.Pairwise (fun y x => clashB x y = false) := by
  simp only [collB, Bool.and_eq_true, decide_eq_true_eq, itemsOK_iff]
  simp
def closeI (v : Int) (x : Item) : Item := ⟨x.tab, x.from_, v⟩
theorem clash_iff (x y : Item) : clashB x y = false ↔ ¬ (y.tab.id = x.tab.id ∧ (y.until_ = 0 ∨ x.from_ < y.until_) ∧ (x.until_ = 0 ∨ y.from_ < x.until_)) := by
  simp only [clashB, overB, ← Bool.not_eq_true, Bool.and_eq_true, decide_eq_true_eq]
theorem clash_close1 {v : Int} {x y : Item} (hy : y.until_ = 0) (h : clashB x y = false) : clashB x (closeI v y) = false := by
  rw [clash_iff] at *
  show ¬ (y.tab.id = x.tab.id ∧ (v = 0 ∨ x.from_ < v) ∧ (x.until_ = 0 ∨ y.from_ < x.until_))
  omega
theorem clash_close2 {v : Int} {x y : Item} (hx : x.until_ = 0) (h : clashB x y = false) : clashB (closeI v x) y = false := by
  rw [clash_iff] at *
  show ¬ (y.tab.id = x.tab.id ∧ (y.until_ = 0 ∨ x.from_ < y.until_) ∧ (v = 0 ∨ y.from_ < v))
  omega
theorem proper_iff (v : Int) (x : Item) : properB v x = true ↔ validB x.tab = true ∧ 1 ≤ x.tab.id ∧ 1 ≤ x.from_ ∧ x.from_ ≤ v ∧ (x.until_ = 0 ∨ x.from_ < x.until_ ∧ x.until_ ≤ v) := by
  simp only [properB, restB, Bool.and_eq_true, decide_eq_true_eq]
theorem proper_up {v : Int} {x : Item} (h : properB v x = true) : properB (v + 1) x = true := by
  obtain ⟨h1, h2⟩ := (proper_iff _ _).1 h
  exact (proper_iff _ _).2 ⟨h1, by omega⟩
theorem proper_close {v : Int} {x : Item} (h : properB v x = true) : properB (v + 1) (closeI (v + 1) x) = true := by
  obtain ⟨h1, h2⟩ := (proper_iff _ _).1 h
  refine (proper_iff _ _).2 ⟨h1, ?_⟩
  show 1 ≤ x.tab.id ∧ 1 ≤ x.from_ ∧ x.from_ ≤ v + 1 ∧ (v + 1 = 0 ∨ x.from_ < v + 1 ∧ v + 1 ≤ v + 1)
  omega
theorem closeAt_get {l : List Item} {i : Nat} {v : Int} {j : Nat} (h : j < (closeAt l i v).length) (h' : j < l.length) : (closeAt l i v)[j] = if i = j then closeI v l[j] else l[j] := by
  unfold closeAt
  simp only [show (0 : Int) ≤ (i : Int) by omega, if_true, Int.toNat_natCast, List.getElem_modify]
  split <;> rfl
theorem close_ok {v : Int} {l : List Item} {i : Nat} (hi : i < l.length) (ho : l[i].until_ = 0) (h1 : ∀ x ∈ l, properB v x = true) (h2 : l.Pairwise (fun y x => clashB x y = false)) :
    (∀ x ∈ closeAt l i (v + 1), properB (v + 1) x = true) ∧ (closeAt l i (v + 1)).Pairwise (fun y x => clashB x y = false) := by
  have hlen := closeAt_len l i (v + 1)
  constructor
  · intro x hx
    obtain ⟨j, hj, rfl⟩ := List.mem_iff_getElem.1 hx
    rw [closeAt_get hj (by omega)]
    split
    · exact proper_close (h1 _ (List.getElem_mem _))
    · exact proper_up (h1 _ (List.getElem_mem _))
  · rw [List.pairwise_iff_getElem] at h2 ⊢
    intro a b ha hb hab
    have h3 := h2 a b (by omega) (by omega) hab
    rw [closeAt_get ha (by omega), closeAt_get hb (by omega)]
    by_cases e1 : i = a
    · subst e1
      rw [if_pos rfl, if_neg (by omega)]
      exact clash_close1 ho h3
    · rw [if_neg e1]
      by_cases e2 : i = b
      · subst e2
        rw [if_pos rfl]
        exact clash_close2 ho h3
      · rw [if_neg e2]; exact h3
theorem has_open {id : Int} {x : Item} (h : hasB id x = true) : x.tab.id = id ∧ x.until_ = 0 := by simpa [hasB] using h
theorem closed_new {v : Int} {l : List Item} {t : Table} (h1 : ∀ x ∈ l, properB v x = true) (h2 : l.Pairwise (fun y x => clashB x y = false)) (hv : 0 ≤ v) :
    (∀ x ∈ closeAt l (ixFrom (hasB t.id) l 0) (v + 1), properB (v + 1) x = true) ∧ (closeAt l (ixFrom (hasB t.id) l 0) (v + 1)).Pairwise (fun y x => clashB x y = false) ∧
      ∀ y ∈ closeAt l (ixFrom (hasB t.id) l 0) (v + 1), clashB ⟨t, v + 1, 0⟩ y = false := by
  have new : ∀ {y : Item}, properB v y = true → hasB t.id y = false → clashB ⟨t, v + 1, 0⟩ y = false := by
    intro y hp hh
    simp only [properB, restB, Bool.and_eq_true, decide_eq_true_eq] at hp
    simp only [hasB, decide_eq_false_iff_not] at hh
    simp only [clashB, overB, Bool.and_eq_false_iff, decide_eq_false_iff_not]
    omega
  rcases ixFrom_cases (hasB t.id) l 0 with ⟨h5, h6⟩ | ⟨i, hi, h5, h6⟩
  · have e : closeAt l (ixFrom (hasB t.id) l 0) (v + 1) = l := by rw [h5]; rfl
    rw [e]
    refine ⟨fun x hx => proper_up (h1 x hx), h2, fun y hy => new (h1 y hy) ?_⟩
    have := List.any_eq_false.1 h6 y hy
    simpa using this
  · rw [Nat.zero_add] at h5
    rw [h5]
    obtain ⟨hid, hop⟩ := has_open h6
    obtain ⟨g1, g2⟩ := close_ok hi hop h1 h2
    refine ⟨g1, g2, fun y hy => ?_⟩
    obtain ⟨j, hj, rfl⟩ := List.mem_iff_getElem.1 hy
    have hlen := closeAt_len l i (v + 1)
    rw [closeAt_get hj (by omega)]
    split
    · rename_i e
      subst e
      simp only [clashB, overB, closeI, Bool.and_eq_false_iff, decide_eq_false_iff_not]
      omega
    · rename_i e
      refine new (h1 _ (List.getElem_mem _)) ?_
      by_cases hh : hasB t.id l[j] = true
      · exfalso
        obtain ⟨hid2, hop2⟩ := has_open hh
        rw [List.pairwise_iff_getElem] at h2
        have hcl : ∀ {x y : Item}, x.tab.id = t.id → y.tab.id = t.id → x.until_ = 0 → y.until_ = 0 → clashB x y = false → False := by
          intro x y a b c d h
          simp only [clashB, overB, Bool.and_eq_false_iff, decide_eq_false_iff_not] at h
          omega
        rcases Nat.lt_or_gt_of_ne e with e | e
        · exact hcl hid2 hid hop2 hop (h2 i j hi (by omega) e)
        · exact hcl hid hid2 hop hop2 (h2 j i (by omega) hi e)
      · simpa using hh
theorem put_ok {c : Coll} {t : Table} (hc : collB c = true) (ht : validB t = true) (hid : 1 ≤ t.id) (hn : c.items.length < 1024) (hv : c.version < 1073741824) :
    (putM c t).2 = 0 ∧ collB (putM c t).1 = true ∧ (putM c t).1.version = c.version + 1 ∧ (putM c t).1.oldest = c.oldest ∧ (putM c t).1.items = closeAt c.items (ixFrom (hasB t.id) c.items 0) (c.version + 1) ++ [⟨t, c.version + 1, 0⟩] := by
  have hm : putM c t = (⟨c.version + 1, c.oldest, closeAt c.items (ixFrom (hasB t.id) c.items 0) (c.version + 1) ++ [⟨t, c.version + 1, 0⟩]⟩, 0) := by
    have h4 : ¬ (1024 ≤ c.items.length ∨ 1073741824 ≤ c.version) := by omega
    simp [putM, hc, ht, hid, h4]
  rw [hm]
  refine ⟨rfl, ?_, rfl, rfl, rfl⟩
  obtain ⟨h0, h1, h2⟩ := (collB_iff c).1 hc
  obtain ⟨g1, g2, g3⟩ := closed_new (t := t) h1 h2 (by omega)
  refine (collB_iff _).2 ⟨⟨h0.1, by show c.oldest ≤ c.version + 1; omega, by show c.version + 1 ≤ 1073741824; omega, ?_⟩, ?_, ?_⟩
  · simp only [List.length_append, closeAt_len, List.length_singleton]; omega
  · intro x hx
    rcases List.mem_append.1 hx with hx | hx
    · exact g1 x hx
    · simp only [List.mem_singleton] at hx
      subst hx
      refine (proper_iff _ _).2 ⟨ht, ?_⟩
      show 1 ≤ t.id ∧ 1 ≤ c.version + 1 ∧ c.version + 1 ≤ c.version + 1 ∧ ((0 : Int) = 0 ∨ _)
      omega
  · rw [List.pairwise_append]
    refine ⟨g2, List.pairwise_singleton _ _, fun y hy x hx => ?_⟩
    simp only [List.mem_singleton] at hx
    subst hx
    exact g3 y hy
theorem drop_ok {c : Coll} {id : Int} {i : Nat} (hc : collB c = true) (hi : i < c.items.length) (hx : ixFrom (hasB id) c.items 0 = i) (hv : c.version < 1073741824) :
    (dropM c id).2 = 0 ∧ collB (dropM c id).1 = true ∧ (dropM c id).1.version = c.version + 1 ∧ (dropM c id).1.oldest = c.oldest ∧ (dropM c id).1.items = closeAt c.items i (c.version + 1) := by
  have hm : dropM c id = (⟨c.version + 1, c.oldest, closeAt c.items i (c.version + 1)⟩, 0) := by
    simp [dropM, hc, hx, show ¬ ((i : Int) < 0) by omega, show ¬ (1073741824 ≤ c.version) by omega]
  rw [hm]
  refine ⟨rfl, ?_, rfl, rfl, rfl⟩
  obtain ⟨h0, h1, h2⟩ := (collB_iff c).1 hc
  have ho : c.items[i].until_ = 0 := by
    rcases ixFrom_cases (hasB id) c.items 0 with ⟨h5, h6⟩ | ⟨j, hj, h5, h6⟩
    · omega
    · have : i = j := by omega
      subst this
      exact (has_open h6).2
  obtain ⟨g1, g2⟩ := close_ok hi ho h1 h2
  refine (collB_iff _).2 ⟨⟨h0.1, by show c.oldest ≤ c.version + 1; omega, by show c.version + 1 ≤ 1073741824; omega, ?_⟩, g1, g2⟩
  simp only [closeAt_len]; omega
end Go.Sx.Sp
namespace Go.Sx.Sp
open Go Go.Sx Go.Proofs
structure Inv (n : Nat) (c : Coll) : Prop where
  ok : collB c = true
  ver : c.version ≤ n
  len : c.items.length ≤ n
  old : c.oldest = 0
  ids : ∀ x ∈ c.items, 1 ≤ x.tab.id ∧ x.tab.id ≤ 4
theorem Inv.zero : Inv 0 Coll.zero := ⟨by decide, by decide, by decide, rfl, fun x hx => by cases hx⟩
theorem Inv.mono {n m : Nat} {c : Coll} (h : Inv n c) (hm : n ≤ m) : Inv m c := ⟨h.ok, by have := h.ver; omega, by have := h.len; omega, h.old, h.ids⟩
theorem closeAt_mem {l : List Item} {i v : Int} {x : Item} (h : x ∈ closeAt l i v) : ∃ y ∈ l, x.tab = y.tab := by
  obtain ⟨j, hj, rfl⟩ := List.mem_iff_getElem.1 h
  have hl := closeAt_len l i v
  refine ⟨l[j]'(by omega), List.getElem_mem _, ?_⟩
  unfold closeAt
  split
  · simp only [List.getElem_modify]
    split <;> rfl
  · rfl
theorem Inv.put {n : Nat} {c : Coll} {t : Table} (h : Inv n c) (hn : n ≤ 100) (ht : validB t = true) (hid : 1 ≤ t.id ∧ t.id ≤ 4) : Inv (n + 1) (putM c t).1 := by
  have h1 := h.ver
  have h2 := h.len
  obtain ⟨_, g1, g2, g3, g4⟩ := put_ok h.ok ht hid.1 (by omega) (by omega)
  refine ⟨g1, by omega, by rw [g4]; simp [closeAt_len]; omega, by rw [g3]; exact h.old, fun x hx => ?_⟩
  rw [g4] at hx
  rcases List.mem_append.1 hx with hx | hx
  · obtain ⟨y, hy, e⟩ := closeAt_mem hx
    rw [e]; exact h.ids y hy
  · simp only [List.mem_singleton] at hx
    subst hx; exact hid
theorem Inv.drop {n : Nat} {c : Coll} {id : Int} (h : Inv n c) (hn : n ≤ 100) (h0 : (dropM c id).2 = 0) : Inv (n + 1) (dropM c id).1 := by
  have h1 := h.ver
  have h2 := h.len
  rcases ixFrom_cases (hasB id) c.items 0 with ⟨h5, h6⟩ | ⟨i, hi, h5, h6⟩
  · have : dropM c id = (Coll.zero, 5) := by simp [dropM, h.ok, h5]
    rw [this] at h0
    exact absurd h0 (by decide)
  · rw [Nat.zero_add] at h5
    obtain ⟨_, g1, g2, g3, g4⟩ := drop_ok h.ok hi h5 (by omega)
    refine ⟨g1, by omega, by rw [g4]; simp [closeAt_len]; omega, by rw [g3]; exact h.old, fun x hx => ?_⟩
    rw [g4] at hx
    obtain ⟨y, hy, e⟩ := closeAt_mem hx
    rw [e]; exact h.ids y hy
end Go.Sx.Sp
namespace Go.Sx.Sp
open Go Go.Sx Go.Proofs
attribute [local irreducible] GoodW
end Go.Sx.Sp
