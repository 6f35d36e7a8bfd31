/- Laws of collections. -/
import Derived.Test.YtplmjmhanplimaaDoorQFour
import Derived.Test.YtplmjmhanplimaaDoorSxFour
set_option linter.unusedVariables false
set_option linter.unusedSimpArgs false
namespace Go.Sx.Sp
open Go Go.Sx Go.Proofs
end Go.Sx.Sp
namespace Go.Sx.Sp
open Go Go.Sx Go.Proofs
attribute [local irreducible] GoodW
end Go.Sx.Sp
namespace Go.Sx.Sp
open Go Go.Sx Go.Proofs
def Asc (l : List Table) : Prop := l.Pairwise fun a b => a.id < b.id
theorem asc_get {l : List Table} (h : Asc l) {i j : Nat} (hi : i < l.length) (hj : j < l.length) (hij : i < j) : l[i].id < l[j].id := (List.pairwise_iff_getElem.1 h) i j hi hj hij
theorem asc_put {l : List Table} (h : Asc l) {x : Table} {i j : Nat} (hij : i ≤ j) (h1 : ∀ k (hk : k < l.length), k < i → l[k].id < x.id) (h2 : ∀ k (hk : k < l.length), j ≤ k → x.id < l[k].id) : Asc (l.take i ++ x :: l.drop j) := by
  unfold Asc
  rw [List.pairwise_append]
  refine ⟨h.sublist (List.take_sublist _ _), List.pairwise_cons.2 ⟨fun y hy => ?_, h.sublist (List.drop_sublist _ _)⟩, fun a ha b hb => ?_⟩
  · obtain ⟨k, hk, rfl⟩ := List.mem_iff_getElem.1 hy
    simp only [List.length_drop] at hk
    rw [List.getElem_drop]
    exact h2 _ (by omega) (by omega)
  · obtain ⟨k, hk, rfl⟩ := List.mem_iff_getElem.1 ha
    simp only [List.length_take] at hk
    rw [List.getElem_take]
    have h3 := h1 k (by omega) (by omega)
    rcases List.mem_cons.1 hb with rfl | hb
    · exact h3
    · obtain ⟨q, hq, rfl⟩ := List.mem_iff_getElem.1 hb
      simp only [List.length_drop] at hq
      rw [List.getElem_drop]
      have := h2 (j + q) (by omega) (by omega)
      omega
def Shows (c : Coll) (v : Int) (L : List Table) : Prop := Asc L ∧ ∀ t, t ∈ L ↔ ∃ x ∈ c.items, aliveB v x = true ∧ x.tab = t
structure Stay (c : Coll) (H : List (List Table)) (n : Nat) : Prop where
  ok : collB c = true
  len : c.items.length ≤ n
  ver : c.version + 1 = H.length
  top : H.length ≤ n + 1
  shows : ∀ v : Nat, c.oldest ≤ v → (h : v < H.length) → Shows c v H[v]
theorem Stay.zero : Stay Coll.zero [[]] 0 := by
  refine ⟨by decide, by decide, rfl, by decide, fun v h1 h2 => ?_⟩
  have : v = 0 := by simp at h2; omega
  subst this
  refine ⟨List.Pairwise.nil, fun t => ⟨fun h => (by cases h), fun h => ?_⟩⟩
  obtain ⟨x, hx, _⟩ := h
  cases hx
theorem alive_iff {w : Int} {x : Item} : aliveB w x = true ↔ x.from_ ≤ w ∧ (x.until_ = 0 ∨ w < x.until_) := by simp [aliveB]
theorem alive_close {v w : Int} {x : Item} : aliveB w (closeI v x) = true ↔ x.from_ ≤ w ∧ (v = 0 ∨ w < v) := decide_eq_true_iff
theorem closed_mem {l : List Item} {i : Int} {v : Int} {y : Item} (h : y ∈ closeAt l i v) : (y ∈ l ∧ ∀ j : Nat, (j : Int) = i → ∀ hj : j < l.length, y = l[j] → ∃ k, ∃ hk : k < l.length, k ≠ j ∧ y = l[k]) ∨ ∃ j : Nat, ∃ hj : j < l.length, (j : Int) = i ∧ y = closeI v l[j] := by
  obtain ⟨j, hj, rfl⟩ := List.mem_iff_getElem.1 h
  have hl := closeAt_len l i v
  by_cases h0 : 0 ≤ i
  · obtain ⟨n, rfl⟩ : ∃ n : Nat, i = n := ⟨i.toNat, by omega⟩
    rw [closeAt_get hj (by omega)]
    split
    · rename_i e; subst e; exact .inr ⟨n, by omega, rfl, rfl⟩
    · rename_i e
      refine .inl ⟨List.getElem_mem _, fun q hq hql he => ⟨j, by omega, by omega, rfl⟩⟩
  · have e : closeAt l i v = l := by unfold closeAt; rw [if_neg h0]
    refine .inl ⟨?_, fun q hq => by omega⟩
    have : (closeAt l i v)[j] = l[j]'(by omega) := by simp only [e]
    rw [this]; exact List.getElem_mem _
theorem mem_closed {l : List Item} {i : Int} {v : Int} {j : Nat} (hj : j < l.length) : (if (j : Int) = i then closeI v l[j] else l[j]) ∈ closeAt l i v := by
  have hl := closeAt_len l i v
  by_cases h0 : 0 ≤ i
  · obtain ⟨n, rfl⟩ : ∃ n : Nat, i = n := ⟨i.toNat, by omega⟩
    have := closeAt_get (l := l) (i := n) (v := v) (j := j) (by omega) hj
    have hm := List.getElem_mem (l := closeAt l (n : Int) v) (n := j) (by omega)
    rw [this] at hm
    by_cases e : n = j
    · subst e; simpa using hm
    · rw [if_neg e] at hm
      rw [if_neg (by omega)]; exact hm
  · have e : closeAt l i v = l := by unfold closeAt; rw [if_neg h0]
    rw [e, if_neg (by omega)]; exact List.getElem_mem _
theorem closed_same {l : List Item} {i : Int} {v w : Int} {t : Table} (hop : ∀ j : Nat, (j : Int) = i → ∀ hj : j < l.length, l[j].until_ = 0) (hw : w < v) (h0 : 0 ≤ w) :
    (∃ x ∈ closeAt l i v, aliveB w x = true ∧ x.tab = t) ↔ ∃ x ∈ l, aliveB w x = true ∧ x.tab = t := by
  constructor
  · rintro ⟨x, hx, h1, h2⟩
    rcases closed_mem hx with ⟨h3, _⟩ | ⟨j, hj, h3, rfl⟩
    · exact ⟨x, h3, h1, h2⟩
    · refine ⟨l[j], List.getElem_mem _, ?_, h2⟩
      have := hop j h3 hj
      rw [alive_close] at h1
      rw [alive_iff]
      omega
  · rintro ⟨x, hx, h1, h2⟩
    obtain ⟨j, hj, rfl⟩ := List.mem_iff_getElem.1 hx
    refine ⟨_, mem_closed hj, ?_, ?_⟩
    · split
      · rename_i e
        have := hop j e hj
        rw [alive_iff] at h1
        rw [alive_close]
        omega
      · exact h1
    · split
      · exact h2
      · exact h2
theorem closed_now {l : List Item} {i : Int} {v id : Int} {t : Table} (hp : ∀ x ∈ l, properB v x = true) (hv : 0 ≤ v)
    (hcl : ∀ y ∈ closeAt l i (v + 1), ¬ (y.tab.id = id ∧ y.until_ = 0)) (hix : ∀ j : Nat, (j : Int) = i → ∀ hj : j < l.length, l[j].tab.id = id) :
    (∃ x ∈ closeAt l i (v + 1), aliveB (v + 1) x = true ∧ x.tab = t) ↔ (∃ x ∈ l, aliveB v x = true ∧ x.tab = t) ∧ t.id ≠ id := by
  constructor
  · rintro ⟨x, hx, h1, h2⟩
    have h3 := hcl x hx
    have h4 : x.until_ = 0 := by
      rcases closed_mem hx with ⟨h5, _⟩ | ⟨j, hj, h5, rfl⟩
      · obtain ⟨_, h6⟩ := (proper_iff _ _).1 (hp x h5)
        rw [alive_iff] at h1
        omega
      · rw [alive_close] at h1
        omega
    rcases closed_mem hx with ⟨h5, _⟩ | ⟨j, hj, h5, rfl⟩
    · refine ⟨⟨x, h5, ?_, h2⟩, fun e => h3 ⟨by rw [h2]; exact e, h4⟩⟩
      obtain ⟨_, h6⟩ := (proper_iff _ _).1 (hp x h5)
      simp only [aliveB, decide_eq_true_eq]
      omega
    · have h4 : v + 1 = 0 := h4
      omega
  · rintro ⟨⟨x, hx, h1, h2⟩, hne⟩
    obtain ⟨j, hj, rfl⟩ := List.mem_iff_getElem.1 hx
    have e : ¬ ((j : Int) = i) := fun e => hne (by rw [← h2]; exact hix j e hj)
    have hm := mem_closed (l := l) (i := i) (v := v + 1) hj
    rw [if_neg e] at hm
    refine ⟨_, hm, ?_, h2⟩
    obtain ⟨_, h6⟩ := (proper_iff _ _).1 (hp _ hx)
    simp only [aliveB, decide_eq_true_eq] at h1 ⊢
    omega
end Go.Sx.Sp
namespace Go.Sx.Sp
open Go Go.Sx Go.Proofs
theorem ix_open {l : List Item} {id : Int} : ∀ j : Nat, (j : Int) = ixFrom (hasB id) l 0 → ∀ hj : j < l.length, l[j].tab.id = id ∧ l[j].until_ = 0 := by
  intro j hj hjl
  rcases ixFrom_cases (hasB id) l 0 with ⟨h1, _⟩ | ⟨i, hi, h1, h2⟩
  · omega
  · rw [Nat.zero_add] at h1
    have : j = i := by omega
    subst this
    exact has_open h2
theorem ix_closed {l : List Item} {id v : Int} (h1 : ∀ x ∈ l, properB v x = true) (h2 : l.Pairwise (fun y x => clashB x y = false)) (hv : 0 ≤ v) : ∀ y ∈ closeAt l (ixFrom (hasB id) l 0) (v + 1), ¬ (y.tab.id = id ∧ y.until_ = 0) := by
  intro y hy
  have h3 := (closed_new (t := ⟨id, [], []⟩) h1 h2 hv).2.2 y hy
  rw [clash_iff] at h3
  intro ⟨h4, h5⟩
  exact h3 ⟨h4, .inl h5, .inl rfl⟩
theorem put_mem {L : List Table} (hL : Asc L) {t : Table} {i j : Nat} (hij : i ≤ j) (h1 : ∀ k (hk : k < L.length), k < i → L[k].id < t.id) (h2 : ∀ k (hk : k < L.length), j ≤ k → t.id < L[k].id) (h3 : ∀ k (hk : k < L.length), i ≤ k → k < j → L[k].id = t.id) (y : Table) :
    y ∈ L.take i ++ t :: L.drop j ↔ y = t ∨ (y ∈ L ∧ y.id ≠ t.id) := by
  rw [List.mem_append, List.mem_cons]
  constructor
  · rintro (h | h | h)
    · obtain ⟨k, hk, rfl⟩ := List.mem_iff_getElem.1 h
      simp only [List.length_take] at hk
      rw [List.getElem_take]
      have := h1 k (by omega) (by omega)
      exact .inr ⟨List.getElem_mem _, by omega⟩
    · exact .inl h
    · obtain ⟨k, hk, rfl⟩ := List.mem_iff_getElem.1 h
      simp only [List.length_drop] at hk
      rw [List.getElem_drop]
      have := h2 (j + k) (by omega) (by omega)
      exact .inr ⟨List.getElem_mem _, by omega⟩
  · rintro (h | ⟨h, hne⟩)
    · exact .inr (.inl h)
    · obtain ⟨k, hk, rfl⟩ := List.mem_iff_getElem.1 h
      by_cases e1 : k < i
      · refine .inl (List.mem_iff_getElem.2 ⟨k, by simp; omega, by rw [List.getElem_take]⟩)
      · by_cases e2 : k < j
        · exact absurd (h3 k hk (by omega) e2) hne
        · refine .inr (.inr (List.mem_iff_getElem.2 ⟨k - j, by simp; omega, ?_⟩))
          rw [List.getElem_drop]
          simp only [show j + (k - j) = k by omega]
theorem Stay.put {c : Coll} {H : List (List Table)} {n : Nat} (hs : Stay c H n) (hn : n ≤ 100) {t : Table} (ht : validB t = true) (hid : 1 ≤ t.id) {L : List Table} (hL : H[H.length - 1]? = some L) {i j : Nat} (hij : i ≤ j)
    (h1 : ∀ k (hk : k < L.length), k < i → L[k].id < t.id) (h2 : ∀ k (hk : k < L.length), j ≤ k → t.id < L[k].id) (h3 : ∀ k (hk : k < L.length), i ≤ k → k < j → L[k].id = t.id) :
    (putM c t).2 = 0 ∧ Stay (putM c t).1 (H ++ [L.take i ++ t :: L.drop j]) (n + 1) := by
  have hlen := hs.len
  have hver := hs.ver
  have htop := hs.top
  obtain ⟨h0, hp, hpw⟩ := (collB_iff c).1 hs.ok
  obtain ⟨p0, p1, p2, p3, p4⟩ := put_ok hs.ok ht hid (by omega) (by omega)
  refine ⟨p0, p1, ?_, ?_, ?_, fun v hv hvl => ?_⟩
  · rw [p4, List.length_append, closeAt_len]; simp; omega
  · rw [p2]; simp; omega
  · simp; omega
  · rw [p3] at hv
    have hcl := ix_closed (id := t.id) hp hpw (by omega)
    have hix := ix_open (l := c.items) (id := t.id)
    by_cases e : v < H.length
    · rw [List.getElem_append_left e]
      obtain ⟨g1, g2⟩ := hs.shows v hv e
      refine ⟨g1, fun y => ?_⟩
      rw [g2 y, p4]
      rw [← closed_same (i := ixFrom (hasB t.id) c.items 0) (v := c.version + 1) (w := v) (fun j hj hjl => (hix j hj hjl).2) (by omega) (by omega)]
      constructor
      · rintro ⟨x, hx, hr⟩; exact ⟨x, List.mem_append_left _ hx, hr⟩
      · rintro ⟨x, hx, hr⟩
        rcases List.mem_append.1 hx with hx | hx
        · exact ⟨x, hx, hr⟩
        · simp only [List.mem_singleton] at hx
          subst hx
          rw [alive_iff] at hr
          have h9 : c.version + 1 ≤ v := hr.1.1
          omega
    · have hve : v = H.length := by simp at hvl; omega
      subst hve
      rw [List.getElem_append_right (Nat.le_refl _)]
      simp only [Nat.sub_self, List.getElem_cons_zero]
      have hlast : H.length - 1 < H.length := (List.getElem?_eq_some_iff.1 hL).1
      have hLe : H[H.length - 1] = L := (List.getElem?_eq_some_iff.1 hL).2
      obtain ⟨g1, g2⟩ := hs.shows (H.length - 1) (by omega) hlast
      rw [hLe] at g1 g2
      refine ⟨asc_put g1 hij h1 h2, fun y => ?_⟩
      rw [put_mem g1 hij h1 h2 h3, g2 y, p4]
      have hvv : ((H.length - 1 : Nat) : Int) = c.version := by omega
      have hvw : ((H.length : Nat) : Int) = c.version + 1 := by omega
      rw [hvv, hvw]
      have := closed_now (i := ixFrom (hasB t.id) c.items 0) (t := y) hp (by omega) hcl (fun j hj hjl => (hix j hj hjl).1)
      rw [← this]
      constructor
      · rintro (rfl | ⟨x, hx, hr⟩)
        · exact ⟨_, List.mem_append_right _ (List.mem_singleton.2 rfl), alive_iff.2 ⟨Int.le_refl _, .inl rfl⟩, rfl⟩
        · exact ⟨x, List.mem_append_left _ hx, hr⟩
      · rintro ⟨x, hx, hr⟩
        rcases List.mem_append.1 hx with hx | hx
        · exact .inr ⟨x, hx, hr⟩
        · simp only [List.mem_singleton] at hx
          subst hx
          exact .inl hr.2.symm
theorem Stay.drop {c : Coll} {H : List (List Table)} {n : Nat} (hs : Stay c H n) (hn : n ≤ 100) {L : List Table} (hL : H[H.length - 1]? = some L) {i : Nat} (hi : i < L.length) :
    (dropM c L[i].id).2 = 0 ∧ Stay (dropM c L[i].id).1 (H ++ [L.take i ++ L.drop (i + 1)]) (n + 1) := by
  have hlen := hs.len
  have hver := hs.ver
  have htop := hs.top
  obtain ⟨h0, hp, hpw⟩ := (collB_iff c).1 hs.ok
  have hlast : H.length - 1 < H.length := (List.getElem?_eq_some_iff.1 hL).1
  have hLe : H[H.length - 1] = L := (List.getElem?_eq_some_iff.1 hL).2
  obtain ⟨g1, g2⟩ := hs.shows (H.length - 1) (by omega) hlast
  rw [hLe] at g1 g2
  have hvv : ((H.length - 1 : Nat) : Int) = c.version := by omega
  have hvw : ((H.length : Nat) : Int) = c.version + 1 := by omega
  rw [hvv] at g2
  obtain ⟨x0, hx0, ha0, ht0⟩ := (g2 L[i]).1 (List.getElem_mem hi)
  have hid := congrArg Table.id ht0
  generalize hidv : L[i].id = id at *
  have hcl := ix_closed (id := id) hp hpw (by omega)
  have hix := ix_open (l := c.items) (id := id)
  obtain ⟨q, hq, hqi⟩ : ∃ q, ∃ hq : q < c.items.length, ixFrom (hasB id) c.items 0 = (q : Int) := by
    rcases ixFrom_cases (hasB id) c.items 0 with ⟨h5, h6⟩ | ⟨q, hq, h5, h6⟩
    · exfalso
      have := List.any_eq_false.1 h6 x0 hx0
      obtain ⟨_, h7⟩ := (proper_iff _ _).1 (hp x0 hx0)
      simp only [aliveB, decide_eq_true_eq] at ha0
      simp only [hasB, decide_eq_true_eq] at this
      omega
    · rw [Nat.zero_add] at h5; exact ⟨q, hq, h5⟩
  obtain ⟨p0, p1, p2, p3, p4⟩ := drop_ok hs.ok hq hqi (by omega)
  rw [← hqi] at p4
  refine ⟨p0, p1, ?_, ?_, ?_, fun v hv hvl => ?_⟩
  · rw [p4, closeAt_len]; omega
  · rw [p2]; simp; omega
  · simp; omega
  · rw [p3] at hv
    by_cases e : v < H.length
    · rw [List.getElem_append_left e]
      obtain ⟨f1, f2⟩ := hs.shows v hv e
      refine ⟨f1, fun y => ?_⟩
      rw [f2 y, p4]
      exact (closed_same (i := ixFrom (hasB id) c.items 0) (v := c.version + 1) (w := v) (fun j hj hjl => (hix j hj hjl).2) (by omega) (by omega)).symm
    · have hve : v = H.length := by simp at hvl; omega
      subst hve
      rw [List.getElem_append_right (Nat.le_refl _)]
      simp only [Nat.sub_self, List.getElem_cons_zero]
      refine ⟨?_, fun y => ?_⟩
      · unfold Asc
        rw [← List.eraseIdx_eq_take_drop_succ]
        exact List.Pairwise.sublist (List.eraseIdx_sublist _ _) g1
      · rw [p4, hvw, closed_now (t := y) hp (by omega) hcl (fun j hj hjl => (hix j hj hjl).1), ← g2 y, List.mem_append]
        constructor
        · rintro (h | h)
          · obtain ⟨k, hk, rfl⟩ := List.mem_iff_getElem.1 h
            simp only [List.length_take] at hk
            rw [List.getElem_take]
            have := asc_get g1 (show k < L.length by omega) hi (by omega)
            exact ⟨List.getElem_mem _, by omega⟩
          · obtain ⟨k, hk, rfl⟩ := List.mem_iff_getElem.1 h
            simp only [List.length_drop] at hk
            rw [List.getElem_drop]
            have := asc_get g1 hi (show i + 1 + k < L.length by omega) (by omega)
            exact ⟨List.getElem_mem _, by omega⟩
        · rintro ⟨h, hne⟩
          obtain ⟨k, hk, rfl⟩ := List.mem_iff_getElem.1 h
          by_cases e1 : k < i
          · exact .inl (List.mem_iff_getElem.2 ⟨k, by simp; omega, by rw [List.getElem_take]⟩)
          · by_cases e2 : k = i
            · subst e2; exact absurd hidv hne
            · refine .inr (List.mem_iff_getElem.2 ⟨k - (i + 1), by simp; omega, ?_⟩)
              rw [List.getElem_drop]
              simp only [show i + 1 + (k - (i + 1)) = k by omega]
theorem Stay.mono {c : Coll} {H : List (List Table)} {n m : Nat} (hs : Stay c H n) (h : n ≤ m) : Stay c H m := ⟨hs.ok, by have := hs.len; omega, hs.ver, by have := hs.top; omega, hs.shows⟩
end Go.Sx.Sp
namespace Go.Sx.Sp
open Go Go.Sx Go.Proofs Go.RowKit
theorem arg_ints {n : Nat} {u : V} (hs : argShape T (n + 2) 22 u) : ∃ l : List Int, u = .sl (intRows .i64 l) false := by
  obtain ⟨rows, hr, _, h⟩ := shape_sl (T := T) (t := 22) rfl (argShape_one (T := T) (t := 22) rfl rfl hs)
  obtain ⟨l, rfl, _⟩ := rows_map (f := fun x : Int => [V.int .i64 x]) (p := fun _ => True) (rows := rows) fun r hr => by
    obtain ⟨x, rfl, _⟩ := shape_int (T := T) (t := 3) rfl (h r hr)
    exact ⟨x, rfl, trivial⟩
  cases hr
  exact ⟨l, rfl⟩
end Go.Sx.Sp
