/- What all functions on collections return, for collections in which something is changed, too. -/
import Derived.Test.YtplmjmhanplimaaDoorQFour
import Derived.Test.YtplmjmhanplimaaDoorSxFour
set_option linter.unusedVariables false
set_option linter.unusedSimpArgs false
namespace Go.Sx.Sp
open Go Go.Sx Go.Proofs
theorem filter_pairwise {R : Item → Item → Prop} {l : List Item} (p : Item → Bool) (h : l.Pairwise R) : (l.filter p).Pairwise R := h.sublist List.filter_sublist
theorem vac_ok {c : Coll} {o : Int} (hc : collB c = true) (ho : c.oldest ≤ o ∧ o ≤ c.version) : vacM c o = (⟨c.version, o, keepM o c.items⟩, 0) ∧ collB ⟨c.version, o, keepM o c.items⟩ = true := by
  obtain ⟨h0, h1, h2⟩ := (collB_iff c).1 hc
  have hl := keepM_len o c.items
  refine ⟨?_, (collB_iff _).2 ⟨⟨by show 0 ≤ o; omega, ho.2, h0.2.2.1, by show (keepM o c.items).length ≤ 1024; omega⟩, fun x hx => h1 x (List.mem_filter.1 hx).1, filter_pairwise _ h2⟩⟩
  have : ¬ (o < c.oldest ∨ c.version < o) := by omega
  simp [vacM, hc, this]
end Go.Sx.Sp
namespace Go.Sx.Sp
open Go Go.Sx Go.Proofs
attribute [local irreducible] GoodW
end Go.Sx.Sp
namespace Go.Sx.Sp
open Go Go.Sx Go.Proofs
def Asc (l : List Table) : Prop := l.Pairwise fun a b => a.id < b.id
theorem asc_get {l : List Table} (h : Asc l) {i j : Nat} (hi : i < l.length) (hj : j < l.length) (hij : i < j) : l[i].id < l[j].id := (List.pairwise_iff_getElem.1 h) i j hi hj hij
theorem asc_put {l : List Table} (h : Asc l) {x : Table} {i j : Nat} (hij : i ≤ j) (h1 : ∀ k (hk : k < l.length), k < i → l[k].id < x.id) (h2 : ∀ k (hk : k < l.length), j ≤ k → x.id < l[k].id) : Asc (l.take i ++ x :: l.drop j) := by
  unfold Asc
  rw [List.pairwise_append]
  refine ⟨h.sublist (List.take_sublist _ _), List.pairwise_cons.2 ⟨fun y hy => ?_, h.sublist (List.drop_sublist _ _)⟩, fun a ha b hb => ?_⟩
  · obtain ⟨k, hk, rfl⟩ := List.mem_iff_getElem.1 hy
    simp only [List.length_drop] at hk
    rw [List.getElem_drop]
    exact h2 _ (by omega) (by omega)
  · obtain ⟨k, hk, rfl⟩ := List.mem_iff_getElem.1 ha
    simp only [List.length_take] at hk
    rw [List.getElem_take]
    have h3 := h1 k (by omega) (by omega)
    rcases List.mem_cons.1 hb with rfl | hb
    · exact h3
    · obtain ⟨q, hq, rfl⟩ := List.mem_iff_getElem.1 hb
      simp only [List.length_drop] at hq
      rw [List.getElem_drop]
      have := h2 (j + q) (by omega) (by omega)
      omega
def Shows (c : Coll) (v : Int) (L : List Table) : Prop := Asc L ∧ ∀ t, t ∈ L ↔ ∃ x ∈ c.items, aliveB v x = true ∧ x.tab = t
structure Stay (c : Coll) (H : List (List Table)) (n : Nat) : Prop where
  ok : collB c = true
  len : c.items.length ≤ n
  ver : c.version + 1 = H.length
  top : H.length ≤ n + 1
  shows : ∀ v : Nat, c.oldest ≤ v → (h : v < H.length) → Shows c v H[v]
theorem Stay.zero : Stay Coll.zero [[]] 0 := by
  refine ⟨by decide, by decide, rfl, by decide, fun v h1 h2 => ?_⟩
  have : v = 0 := by simp at h2; omega
  subst this
  refine ⟨List.Pairwise.nil, fun t => ⟨fun h => (by cases h), fun h => ?_⟩⟩
  obtain ⟨x, hx, _⟩ := h
  cases hx
theorem alive_iff {w : Int} {x : Item} : aliveB w x = true ↔ x.from_ ≤ w ∧ (x.until_ = 0 ∨ w < x.until_) := by simp [aliveB]
theorem alive_close {v w : Int} {x : Item} : aliveB w (closeI v x) = true ↔ x.from_ ≤ w ∧ (v = 0 ∨ w < v) := decide_eq_true_iff
theorem closed_mem {l : List Item} {i : Int} {v : Int} {y : Item} (h : y ∈ closeAt l i v) : (y ∈ l ∧ ∀ j : Nat, (j : Int) = i → ∀ hj : j < l.length, y = l[j] → ∃ k, ∃ hk : k < l.length, k ≠ j ∧ y = l[k]) ∨ ∃ j : Nat, ∃ hj : j < l.length, (j : Int) = i ∧ y = closeI v l[j] := by
  obtain ⟨j, hj, rfl⟩ := List.mem_iff_getElem.1 h
  have hl := closeAt_len l i v
  by_cases h0 : 0 ≤ i
  · obtain ⟨n, rfl⟩ : ∃ n : Nat, i = n := ⟨i.toNat, by omega⟩
    rw [closeAt_get hj (by omega)]
    split
    · rename_i e; subst e; exact .inr ⟨n, by omega, rfl, rfl⟩
    · rename_i e
      refine .inl ⟨List.getElem_mem _, fun q hq hql he => ⟨j, by omega, by omega, rfl⟩⟩
  · have e : closeAt l i v = l := by unfold closeAt; rw [if_neg h0]
    refine .inl ⟨?_, fun q hq => by omega⟩
    have : (closeAt l i v)[j] = l[j]'(by omega) := by simp only [e]
    rw [this]; exact List.getElem_mem _
theorem mem_closed {l : List Item} {i : Int} {v : Int} {j : Nat} (hj : j < l.length) : (if (j : Int) = i then closeI v l[j] else l[j]) ∈ closeAt l i v := by
  have hl := closeAt_len l i v
  by_cases h0 : 0 ≤ i
  · obtain ⟨n, rfl⟩ : ∃ n : Nat, i = n := ⟨i.toNat, by omega⟩
    have := closeAt_get (l := l) (i := n) (v := v) (j := j) (by omega) hj
    have hm := List.getElem_mem (l := closeAt l (n : Int) v) (n := j) (by omega)
    rw [this] at hm
    by_cases e : n = j
    · subst e; simpa using hm
    · rw [if_neg e] at hm
      rw [if_neg (by omega)]; exact hm
  · have e : closeAt l i v = l := by unfold closeAt; rw [if_neg h0]
    rw [e, if_neg (by omega)]; exact List.getElem_mem _
theorem closed_same {l : List Item} {i : Int} {v w : Int} {t : Table} (hop : ∀ j : Nat, (j : Int) = i → ∀ hj : j < l.length, l[j].until_ = 0) (hw : w < v) (h0 : 0 ≤ w) :
    (∃ x ∈ closeAt l i v, aliveB w x = true ∧ x.tab = t) ↔ ∃ x ∈ l, aliveB w x = true ∧ x.tab = t := by
  constructor
  · rintro ⟨x, hx, h1, h2⟩
    rcases closed_mem hx with ⟨h3, _⟩ | ⟨j, hj, h3, rfl⟩
    · exact ⟨x, h3, h1, h2⟩
    · refine ⟨l[j], List.getElem_mem _, ?_, h2⟩
      have := hop j h3 hj
      rw [alive_close] at h1
      rw [alive_iff]
      omega
  · rintro ⟨x, hx, h1, h2⟩
    obtain ⟨j, hj, rfl⟩ := List.mem_iff_getElem.1 hx
    refine ⟨_, mem_closed hj, ?_, ?_⟩
    · split
      · rename_i e
        have := hop j e hj
        rw [alive_iff] at h1
        rw [alive_close]
        omega
      · exact h1
    · split
      · exact h2
      · exact h2
theorem closed_now {l : List Item} {i : Int} {v id : Int} {t : Table} (hp : ∀ x ∈ l, properB v x = true) (hv : 0 ≤ v)
    (hcl : ∀ y ∈ closeAt l i (v + 1), ¬ (y.tab.id = id ∧ y.until_ = 0)) (hix : ∀ j : Nat, (j : Int) = i → ∀ hj : j < l.length, l[j].tab.id = id) :
    (∃ x ∈ closeAt l i (v + 1), aliveB (v + 1) x = true ∧ x.tab = t) ↔ (∃ x ∈ l, aliveB v x = true ∧ x.tab = t) ∧ t.id ≠ id := by
  constructor
  · rintro ⟨x, hx, h1, h2⟩
    have h3 := hcl x hx
    have h4 : x.until_ = 0 := by
      rcases closed_mem hx with ⟨h5, _⟩ | ⟨j, hj, h5, rfl⟩
      · obtain ⟨_, h6⟩ := (proper_iff _ _).1 (hp x h5)
        rw [alive_iff] at h1
        omega
      · rw [alive_close] at h1
        omega
    rcases closed_mem hx with ⟨h5, _⟩ | ⟨j, hj, h5, rfl⟩
    · refine ⟨⟨x, h5, ?_, h2⟩, fun e => h3 ⟨by rw [h2]; exact e, h4⟩⟩
      obtain ⟨_, h6⟩ := (proper_iff _ _).1 (hp x h5)
      simp only [aliveB, decide_eq_true_eq]
      omega
    · have h4 : v + 1 = 0 := h4
      omega
  · rintro ⟨⟨x, hx, h1, h2⟩, hne⟩
    obtain ⟨j, hj, rfl⟩ := List.mem_iff_getElem.1 hx
    have e : ¬ ((j : Int) = i) := fun e => hne (by rw [← h2]; exact hix j e hj)
    have hm := mem_closed (l := l) (i := i) (v := v + 1) hj
    rw [if_neg e] at hm
    refine ⟨_, hm, ?_, h2⟩
    obtain ⟨_, h6⟩ := (proper_iff _ _).1 (hp _ hx)
    simp only [aliveB, decide_eq_true_eq] at h1 ⊢
    omega
end Go.Sx.Sp
namespace Go.Sx.Sp
open Go Go.Sx Go.Proofs
theorem ix_open {l : List Item} {id : Int} : ∀ j : Nat, (j : Int) = ixFrom (hasB id) l 0 → ∀ hj : j < l.length, l[j].tab.id = id ∧ l[j].until_ = 0 := by
  intro j hj hjl
  rcases ixFrom_cases (hasB id) l 0 with ⟨h1, _⟩ | ⟨i, hi, h1, h2⟩
  · omega
  · rw [Nat.zero_add] at h1
    have : j = i := by omega
    subst this
    exact has_open h2
theorem ix_closed {l : List Item} {id v : Int} (h1 : ∀ x ∈ l, properB v x = true) (h2 : l.Pairwise (fun y x => clashB x y = false)) (hv : 0 ≤ v) : ∀ y ∈ closeAt l (ixFrom (hasB id) l 0) (v + 1), ¬ (y.tab.id = id ∧ y.until_ = 0) := by
  intro y hy
  have h3 := (closed_new (t := ⟨id, [], []⟩) h1 h2 hv).2.2 y hy
  rw [clash_iff] at h3
  intro ⟨h4, h5⟩
  exact h3 ⟨h4, .inl h5, .inl rfl⟩
theorem put_mem {L : List Table} (hL : Asc L) {t : Table} {i j : Nat} (hij : i ≤ j) (h1 : ∀ k (hk : k < L.length), k < i → L[k].id < t.id) (h2 : ∀ k (hk : k < L.length), j ≤ k → t.id < L[k].id) (h3 : ∀ k (hk : k < L.length), i ≤ k → k < j → L[k].id = t.id) (y : Table) :
    y ∈ L.take i ++ t :: L.drop j ↔ y = t ∨ (y ∈ L ∧ y.id ≠ t.id) := by
  rw [List.mem_append, List.mem_cons]
  constructor
  · rintro (h | h | h)
    · obtain ⟨k, hk, rfl⟩ := List.mem_iff_getElem.1 h
      simp only [List.length_take] at hk
      rw [List.getElem_take]
      have := h1 k (by omega) (by omega)
      exact .inr ⟨List.getElem_mem _, by omega⟩
    · exact .inl h
    · obtain ⟨k, hk, rfl⟩ := List.mem_iff_getElem.1 h
      simp only [List.length_drop] at hk
      rw [List.getElem_drop]
      have := h2 (j + k) (by omega) (by omega)
      exact .inr ⟨List.getElem_mem _, by omega⟩
  · rintro (h | ⟨h, hne⟩)
    · exact .inr (.inl h)
    · obtain ⟨k, hk, rfl⟩ := List.mem_iff_getElem.1 h
      by_cases e1 : k < i
      · refine .inl (List.mem_iff_getElem.2 ⟨k, by simp; omega, by rw [List.getElem_take]⟩)
      · by_cases e2 : k < j
        · exact absurd (h3 k hk (by omega) e2) hne
        · refine .inr (.inr (List.mem_iff_getElem.2 ⟨k - j, by simp; omega, ?_⟩))
          rw [List.getElem_drop]
          simp only [show j + (k - j) = k by omega]
theorem Stay.put {c : Coll} {H : List (List Table)} {n : Nat} (hs : Stay c H n) (hn : n ≤ 100) {t : Table} (ht : validB t = true) (hid : 1 ≤ t.id) {L : List Table} (hL : H[H.length - 1]? = some L) {i j : Nat} (hij : i ≤ j)
    (h1 : ∀ k (hk : k < L.length), k < i → L[k].id < t.id) (h2 : ∀ k (hk : k < L.length), j ≤ k → t.id < L[k].id) (h3 : ∀ k (hk : k < L.length), i ≤ k → k < j → L[k].id = t.id) :
    (putM c t).2 = 0 ∧ Stay (putM c t).1 (H ++ [L.take i ++ t :: L.drop j]) (n + 1) := by
  have hlen := hs.len
  have hver := hs.ver
  have htop := hs.top
  obtain ⟨h0, hp, hpw⟩ := (collB_iff c).1 hs.ok
  obtain ⟨p0, p1, p2, p3, p4⟩ := put_ok hs.ok ht hid (by omega) (by omega)
  refine ⟨p0, p1, ?_, ?_, ?_, fun v hv hvl => ?_⟩
  · rw [p4, List.length_append, closeAt_len]; simp; omega
  · rw [p2]; simp; omega
  · simp; omega
  · rw [p3] at hv
    have hcl := ix_closed (id := t.id) hp hpw (by omega)
    have hix := ix_open (l := c.items) (id := t.id)
    by_cases e : v < H.length
    · rw [List.getElem_append_left e]
      obtain ⟨g1, g2⟩ := hs.shows v hv e
      refine ⟨g1, fun y => ?_⟩
      rw [g2 y, p4]
      rw [← closed_same (i := ixFrom (hasB t.id) c.items 0) (v := c.version + 1) (w := v) (fun j hj hjl => (hix j hj hjl).2) (by omega) (by omega)]
      constructor
      · rintro ⟨x, hx, hr⟩; exact ⟨x, List.mem_append_left _ hx, hr⟩
      · rintro ⟨x, hx, hr⟩
        rcases List.mem_append.1 hx with hx | hx
        · exact ⟨x, hx, hr⟩
        · simp only [List.mem_singleton] at hx
          subst hx
          rw [alive_iff] at hr
          have h9 : c.version + 1 ≤ v := hr.1.1
          omega
    · have hve : v = H.length := by simp at hvl; omega
      subst hve
      rw [List.getElem_append_right (Nat.le_refl _)]
      simp only [Nat.sub_self, List.getElem_cons_zero]
      have hlast : H.length - 1 < H.length := (List.getElem?_eq_some_iff.1 hL).1
      have hLe : H[H.length - 1] = L := (List.getElem?_eq_some_iff.1 hL).2
      obtain ⟨g1, g2⟩ := hs.shows (H.length - 1) (by omega) hlast
      rw [hLe] at g1 g2
      refine ⟨asc_put g1 hij h1 h2, fun y => ?_⟩
      rw [put_mem g1 hij h1 h2 h3, g2 y, p4]
      have hvv : ((H.length - 1 : Nat) : Int) = c.version := by omega
      have hvw : ((H.length : Nat) : Int) = c.version + 1 := by omega
      rw [hvv, hvw]
      have := closed_now (i := ixFrom (hasB t.id) c.items 0) (t := y) hp (by omega) hcl (fun j hj hjl => (hix j hj hjl).1)
      rw [← this]
      constructor
      · rintro (rfl | ⟨x, hx, hr⟩)
        · exact ⟨_, List.mem_append_right _ (List.mem_singleton.2 rfl), alive_iff.2 ⟨Int.le_refl _, .inl rfl⟩, rfl⟩
        · exact ⟨x, List.mem_append_left _ hx, hr⟩
      · rintro ⟨x, hx, hr⟩
        rcases List.mem_append.1 hx with hx | hx
        · exact .inr ⟨x, hx, hr⟩
        · simp only [List.mem_singleton] at hx
          subst hx
          exact .inl hr.2.symm
theorem Stay.drop {c : Coll} {H : List (List Table)} {n : Nat} (hs : Stay c H n) (hn : n ≤ 100) {L : List Table} (hL : H[H.length - 1]? = some L) {i : Nat} (hi : i < L.length) :
    (dropM c L[i].id).2 = 0 ∧ Stay (dropM c L[i].id).1 (H ++ [L.take i ++ L.drop (i + 1)]) (n + 1) := by
  have hlen := hs.len
  have hver := hs.ver
  have htop := hs.top
  obtain ⟨h0, hp, hpw⟩ := (collB_iff c).1 hs.ok
  have hlast : H.length - 1 < H.length := (List.getElem?_eq_some_iff.1 hL).1
  have hLe : H[H.length - 1] = L := (List.getElem?_eq_some_iff.1 hL).2
  obtain ⟨g1, g2⟩ := hs.shows (H.length - 1) (by omega) hlast
  rw [hLe] at g1 g2
  have hvv : ((H.length - 1 : Nat) : Int) = c.version := by omega
  have hvw : ((H.length : Nat) : Int) = c.version + 1 := by omega
  rw [hvv] at g2
  obtain ⟨x0, hx0, ha0, ht0⟩ := (g2 L[i]).1 (List.getElem_mem hi)
  have hid := congrArg Table.id ht0
  generalize hidv : L[i].id = id at *
  have hcl := ix_closed (id := id) hp hpw (by omega)
  have hix := ix_open (l := c.items) (id := id)
  obtain ⟨q, hq, hqi⟩ : ∃ q, ∃ hq : q < c.items.length, ixFrom (hasB id) c.items 0 = (q : Int) := by
    rcases ixFrom_cases (hasB id) c.items 0 with ⟨h5, h6⟩ | ⟨q, hq, h5, h6⟩
    · exfalso
      have := List.any_eq_false.1 h6 x0 hx0
      obtain ⟨_, h7⟩ := (proper_iff _ _).1 (hp x0 hx0)
      simp only [aliveB, decide_eq_true_eq] at ha0
      simp only [hasB, decide_eq_true_eq] at this
      omega
    · rw [Nat.zero_add] at h5; exact ⟨q, hq, h5⟩
  obtain ⟨p0, p1, p2, p3, p4⟩ := drop_ok hs.ok hq hqi (by omega)
  rw [← hqi] at p4
  refine ⟨p0, p1, ?_, ?_, ?_, fun v hv hvl => ?_⟩
  · rw [p4, closeAt_len]; omega
  · rw [p2]; simp; omega
  · simp; omega
  · rw [p3] at hv
    by_cases e : v < H.length
    · rw [List.getElem_append_left e]
      obtain ⟨f1, f2⟩ := hs.shows v hv e
      refine ⟨f1, fun y => ?_⟩
      rw [f2 y, p4]
      exact (closed_same (i := ixFrom (hasB id) c.items 0) (v := c.version + 1) (w := v) (fun j hj hjl => (hix j hj hjl).2) (by omega) (by omega)).symm
    · have hve : v = H.length := by simp at hvl; omega
      subst hve
      rw [List.getElem_append_right (Nat.le_refl _)]
      simp only [Nat.sub_self, List.getElem_cons_zero]
      refine ⟨?_, fun y => ?_⟩
      · unfold Asc
        rw [← List.eraseIdx_eq_take_drop_succ]
        exact List.Pairwise.sublist (List.eraseIdx_sublist _ _) g1
      · rw [p4, hvw, closed_now (t := y) hp (by omega) hcl (fun j hj hjl => (hix j hj hjl).1), ← g2 y, List.mem_append]
        constructor
        · rintro (h | h)
          · obtain ⟨k, hk, rfl⟩ := List.mem_iff_getElem.1 h
            simp only [List.length_take] at hk
            rw [List.getElem_take]
            have := asc_get g1 (show k < L.length by omega) hi (by omega)
            exact ⟨List.getElem_mem _, by omega⟩
          · obtain ⟨k, hk, rfl⟩ := List.mem_iff_getElem.1 h
            simp only [List.length_drop] at hk
            rw [List.getElem_drop]
            have := asc_get g1 hi (show i + 1 + k < L.length by omega) (by omega)
            exact ⟨List.getElem_mem _, by omega⟩
        · rintro ⟨h, hne⟩
          obtain ⟨k, hk, rfl⟩ := List.mem_iff_getElem.1 h
          by_cases e1 : k < i
          · exact .inl (List.mem_iff_getElem.2 ⟨k, by simp; omega, by rw [List.getElem_take]⟩)
          · by_cases e2 : k = i
            · subst e2; exact absurd hidv hne
            · refine .inr (List.mem_iff_getElem.2 ⟨k - (i + 1), by simp; omega, ?_⟩)
              rw [List.getElem_drop]
              simp only [show i + 1 + (k - (i + 1)) = k by omega]
theorem Stay.mono {c : Coll} {H : List (List Table)} {n m : Nat} (hs : Stay c H n) (h : n ≤ m) : Stay c H m := ⟨hs.ok, by have := hs.len; omega, hs.ver, by have := hs.top; omega, hs.shows⟩
end Go.Sx.Sp
namespace Go.Sx.Sp
open Go Go.Sx Go.Proofs Go.RowKit
theorem arg_ints {n : Nat} {u : V} (hs : argShape T (n + 2) 22 u) : ∃ l : List Int, u = .sl (intRows .i64 l) false := by
  obtain ⟨rows, hr, _, h⟩ := shape_sl (T := T) (t := 22) rfl (argShape_one (T := T) (t := 22) rfl rfl hs)
  obtain ⟨l, rfl, _⟩ := rows_map (f := fun x : Int => [V.int .i64 x]) (p := fun _ => True) (rows := rows) fun r hr => by
    obtain ⟨x, rfl, _⟩ := shape_int (T := T) (t := 3) rfl (h r hr)
    exact ⟨x, rfl, trivial⟩
  cases hr
  exact ⟨l, rfl⟩
theorem arg_int {n : Nat} {u : V} (hs : argShape T (n + 1) 3 u) : ∃ x : Int, u = .int .i64 x ∧ -9223372036854775808 ≤ x ∧ x ≤ 9223372036854775807 := by
  obtain ⟨x, h, h1, h2⟩ := shape_int (T := T) (t := 3) rfl (argShape_one (T := T) (t := 3) rfl rfl hs)
  cases h
  rw [show IntKind.i64.min = -9223372036854775808 by decide] at h1
  rw [show IntKind.i64.max = 9223372036854775807 by decide] at h2
  exact ⟨x, rfl, h1, h2⟩
end Go.Sx.Sp
namespace Go.Sx.Sp
open Go Go.Sx Go.Proofs
attribute [local irreducible] GoodW
end Go.Sx.Sp
namespace Go.Sx.Sp
open Go Go.Sx Go.Proofs
attribute [local irreducible] GoodW
theorem putM_zero {c : Coll} {t : Table} (h : (putM c t).2 = 0) : collB c = true ∧ validB t = true ∧ 1 ≤ t.id ∧ c.items.length < 1024 ∧ c.version < 1073741824 := by
  unfold putM at h
  split at h
  · rename_i h1
    split at h
    · simp at h
    · exact ⟨h1.1, h1.2.1, h1.2.2, by omega, by omega⟩
  · simp at h
theorem dropM_zero {c : Coll} {id : Int} (h : (dropM c id).2 = 0) : collB c = true ∧ (∃ i, ∃ hi : i < c.items.length, ixFrom (hasB id) c.items 0 = (i : Int) ∧ hasB id c.items[i] = true) ∧ c.version < 1073741824 := by
  rcases ixFrom_cases (hasB id) c.items 0 with ⟨h5, h6⟩ | ⟨i, hi, h5, h6⟩
  · exfalso
    unfold dropM at h
    rw [h5] at h
    split at h <;> simp at h
  · rw [Nat.zero_add] at h5
    have h7 : ¬ ((i : Int) < 0) := by omega
    by_cases h1 : collB c = true
    · by_cases h8 : 1073741824 ≤ c.version
      · have hm : dropM c id = (Coll.zero, 3) := by simp [dropM, h1, h5, h8]
        rw [hm] at h; simp at h
      · exact ⟨h1, ⟨i, hi, h5, h6⟩, by omega⟩
    · have hm : dropM c id = (Coll.zero, 1) := by simp [dropM, h1]
      rw [hm] at h; simp at h
theorem vacM_zero {c : Coll} {o : Int} (h : (vacM c o).2 = 0) : collB c = true ∧ c.oldest ≤ o ∧ o ≤ c.version := by
  unfold vacM at h
  split at h
  · rename_i h1
    split at h
    · simp at h
    · exact ⟨h1, by omega, by omega⟩
  · simp at h
def ownColl (k : Nat) (c : Coll) : V := .agg [.int .i64 c.version, .int .i64 c.oldest, .osl k 0 0 (itemRows c.items).length (itemRows c.items).length]
set_option maxHeartbeats 4000000 in
theorem put41_own (c : Coll) (t : Table) (h : (putM c t).2 = 0) : Spec Tryd.prog 41 [.agg c.row, .agg t.row] [] (.tup [ownColl 11 (putM c t).1, .int .i64 0]) [(11, .rows 5 (itemRows (putM c t).1.items) (some []))] := by
  obtain ⟨h1, h2, h3, h41, h42⟩ := putM_zero h
  have sp1 := valid41_spec c
  have sp2 := valid3_spec t
  have sp3 := find41_own ⟨c.version + 1, c.oldest, c.items⟩ t.id
  have hcl := itemRows_len c.items
  have hm : putM c t = (⟨c.version + 1, c.oldest, closeAt c.items (ixFrom (hasB t.id) c.items 0) (c.version + 1) ++ [⟨t, c.version + 1, 0⟩]⟩, 0) := by
    have h4 : ¬ (1024 ≤ c.items.length ∨ 1073741824 ≤ c.version) := by omega
    simp [putM, h1, h2, h3, h4]
  have hfew := collB_few h1
  have hv0 : 0 ≤ c.version := by
    simp only [collB, Bool.and_eq_true, decide_eq_true_eq] at h1
    omega
  have hfit : fitsV ((itemRows c.items).length + 1) 64 := fitN (by omega) (by omega)
  have sp4 := copy41_spec c hfew
  have sp5 := copy38_spec t (validB_few h2)
  rw [h1] at sp1
  rw [h2] at sp2
  rw [hm]
  unfold ownColl
  dsimp only
  refine Spec.body env Tryd.func41 rfl (by kernel_rfl) (Nat.le_of_ble_eq_true (by kernel_rfl)) (keysSub rfl) fun Γ hN hK => ?_; have hML : maxLen = 9223372036854775807 := by unfold maxLen; rfl
  repeat (first | refine gA ?_ | refine gB ?_ | refine gC rfl ?_ | refine gD rfl ?_ | ((first | refine gE env hN (by kernel_rfl) ?_ | refine gF ?_ | refine gG ?_ | refine gH fun hlen => ?_ | refine gI (by kernel_rfl) ?_ | refine gN rfl ?_ | refine gN (by omega) ?_ | refine gJ rfl ?_ | refine gK (by omega) ?_ | refine gL (by omega) ?_ | refine gK rfl ?_ | refine gO ?_); conv => whnf))
  (refine ⟨_, _, _, callG [] [] [] rfl rfl rfl (by kernel_rfl) (sp1) (by repeat' (first | exact trivial | exact Lent.refl _ | exact Lent.norm _ | apply And.intro)) rfl ⟨rfl, rfl, rfl, rfl, rfl, trivial, rfl, rfl⟩, ?_⟩; conv => whnf)
  repeat (first | refine gA ?_ | refine gB ?_ | refine gC rfl ?_ | refine gD rfl ?_ | ((first | refine gE env hN (by kernel_rfl) ?_ | refine gF ?_ | refine gG ?_ | refine gH fun hlen => ?_ | refine gI (by kernel_rfl) ?_ | refine gN rfl ?_ | refine gN (by omega) ?_ | refine gJ rfl ?_ | refine gK (by omega) ?_ | refine gL (by omega) ?_ | refine gK rfl ?_ | refine gO ?_); conv => whnf))
  (refine ⟨_, _, _, callG [] [] [] rfl rfl rfl (by kernel_rfl) (sp2) (by repeat' (first | exact trivial | exact Lent.refl _ | exact Lent.norm _ | apply And.intro)) rfl ⟨rfl, rfl, rfl, rfl, rfl, trivial, rfl, rfl⟩, ?_⟩; conv => whnf)
  repeat (first | refine gA ?_ | refine gB ?_ | refine gC rfl ?_ | refine gD rfl ?_ | ((first | refine gE env hN (by kernel_rfl) ?_ | refine gF ?_ | refine gG ?_ | refine gH fun hlen => ?_ | refine gI (by kernel_rfl) ?_ | refine gN rfl ?_ | refine gN (by omega) ?_ | refine gJ rfl ?_ | refine gK (by omega) ?_ | refine gL (by omega) ?_ | refine gK rfl ?_ | refine gO ?_); conv => whnf))
  (refine ⟨_, _, _, callG [] [(27, 11)] [] rfl rfl rfl (by kernel_rfl) (sp4) (by repeat' (first | exact trivial | exact Lent.refl _ | exact Lent.norm _ | apply And.intro)) rfl ⟨rfl, rfl, rfl, rfl, rfl, by repeat' (first | exact trivial | rfl | apply And.intro), rfl, rfl⟩, ?_⟩; conv => whnf)
  repeat (first | refine gA ?_ | refine gB ?_ | refine gC rfl ?_ | refine gD rfl ?_ | ((first | refine gE env hN (by kernel_rfl) ?_ | refine gF ?_ | refine gG ?_ | refine gH fun hlen => ?_ | refine gI (by kernel_rfl) ?_ | refine gN rfl ?_ | refine gN (by omega) ?_ | refine gJ rfl ?_ | refine gK (by omega) ?_ | refine gL (by omega) ?_ | refine gK rfl ?_ | refine gO ?_); conv => whnf))
  (refine ⟨_, _, _, callG [(0, 11)] [] [] rfl rfl rfl (by kernel_rfl) (sp3) (by repeat' (first | exact trivial | exact Lent.refl _ | exact Lent.norm _ | apply And.intro)) rfl ⟨rfl, rfl, rfl, rfl, rfl, by repeat' (first | exact trivial | rfl | apply And.intro), rfl, rfl⟩, ?_⟩; conv => whnf)
  repeat (first | refine gA ?_ | refine gB ?_ | refine gC rfl ?_ | refine gD rfl ?_ | ((first | refine gE env hN (by kernel_rfl) ?_ | refine gF ?_ | refine gG ?_ | refine gH fun hlen => ?_ | refine gI (by kernel_rfl) ?_ | refine gN rfl ?_ | refine gN (by omega) ?_ | refine gJ rfl ?_ | refine gK (by omega) ?_ | refine gL (by omega) ?_ | refine gK rfl ?_ | refine gO ?_); conv => whnf))
  rcases ixFrom_cases (hasB t.id) c.items 0 with ⟨h5, h6⟩ | ⟨i, hi, h5, h6⟩
  · rw [h5] at *
    repeat (first | refine gA ?_ | refine gB ?_ | refine gC rfl ?_ | refine gD rfl ?_ | ((first | refine gE env hN (by kernel_rfl) ?_ | refine gF ?_ | refine gG ?_ | refine gH fun hlen => ?_ | refine gI (by kernel_rfl) ?_ | refine gN rfl ?_ | refine gN (by omega) ?_ | refine gJ rfl ?_ | refine gK (by omega) ?_ | refine gL (by omega) ?_ | refine gK rfl ?_ | refine gO ?_); conv => whnf))
    (refine ⟨_, _, _, callG [] [] [] rfl rfl rfl (by kernel_rfl) (sp5) (by repeat' (first | exact trivial | exact Lent.refl _ | exact Lent.norm _ | apply And.intro)) rfl ⟨rfl, rfl, rfl, rfl, rfl, trivial, rfl, rfl⟩, ?_⟩; conv => whnf)
    repeat (first | refine gA ?_ | refine gB ?_ | refine gC rfl ?_ | refine gD rfl ?_ | ((first | refine gE env hN (by kernel_rfl) ?_ | refine gF ?_ | refine gG ?_ | refine gH fun hlen => ?_ | refine gI (by kernel_rfl) ?_ | refine gN rfl ?_ | refine gN (by omega) ?_ | refine gJ rfl ?_ | refine gK (by omega) ?_ | refine gL (by omega) ?_ | refine gK rfl ?_ | refine gO ?_); conv => whnf))
    refine ⟨⟨rowsSz_cons rfl rowsSz_nil, rfl⟩, hfit, .inl ⟨rfl, rfl, ?_⟩⟩
    conv => whnf
    repeat (first | refine gA ?_ | refine gB ?_ | refine gC rfl ?_ | refine gD rfl ?_ | ((first | refine gE env hN (by kernel_rfl) ?_ | refine gF ?_ | refine gG ?_ | refine gH fun hlen => ?_ | refine gI (by kernel_rfl) ?_ | refine gN rfl ?_ | refine gN (by omega) ?_ | refine gJ rfl ?_ | refine gK (by omega) ?_ | refine gL (by omega) ?_ | refine gK rfl ?_ | refine gO ?_); conv => whnf))
    have hr : itemRows c.items ++ [(Item.mk t (c.version + 1) 0).row] = itemRows (closeAt c.items (-1) (c.version + 1) ++ [Item.mk t (c.version + 1) 0]) := by simp [closeAt, itemRows]
    have hn : (itemRows c.items).length + 1 = (itemRows (closeAt c.items (-1) (c.version + 1) ++ [Item.mk t (c.version + 1) 0])).length := by rw [itemRows_len, itemRows_len, List.length_append, closeAt_len]; rfl
    refine W.leG (mp := [(4, 4), (11, 11)]) (bo := []) (st' := ⟨[(4, .bp 4 0), (5, .int .i64 0)], [(4, [.rows 3 [[.int .i64 (c.version + 1), .int .i64 c.oldest, .osl 11 0 0 (itemRows (closeAt c.items (-1) (c.version + 1) ++ [Item.mk t (c.version + 1) 0])).length (itemRows (closeAt c.items (-1) (c.version + 1) ++ [Item.mk t (c.version + 1) 0])).length]] none]), (11, [.rows 5 (itemRows (closeAt c.items (-1) (c.version + 1) ++ [Item.mk t (c.version + 1) 0])) (some [])])], [4, 11]⟩)
      (LeG.mk' rfl rfl rfl (by repeat' (first | exact trivial | exact ⟨_, .refl _, rfl⟩ | apply And.intro)) (.cons 4 rfl rfl (.refl _) (by rw [← hn]; rfl) (.cons 11 rfl rfl (.refl _) (by rw [← hr]; rfl) .nil)) rfl rfl (by rw [hK]; rfl)) ?_
    (refine gM ?_; conv => whnf)
    exact retH rfl (.refl _) rfl rfl rfl ⟨rfl, rfl, trivial⟩
  · rw [Nat.zero_add] at h5
    rw [h5] at *
    repeat (first | refine gA ?_ | refine gB ?_ | refine gC rfl ?_ | refine gD rfl ?_ | ((first | refine gE env hN (by kernel_rfl) ?_ | refine gF ?_ | refine gG ?_ | refine gH fun hlen => ?_ | refine gI (by kernel_rfl) ?_ | refine gN rfl ?_ | refine gN (by omega) ?_ | refine gJ rfl ?_ | refine gK (by omega) ?_ | refine gL (by omega) ?_ | refine gK rfl ?_ | refine gO ?_); conv => whnf))
    refine rowAt_of (by simpa using itemRows_get hi) ?_
    conv => whnf
    repeat (first | refine gA ?_ | refine gB ?_ | refine gC rfl ?_ | refine gD rfl ?_ | ((first | refine gE env hN (by kernel_rfl) ?_ | refine gF ?_ | refine gG ?_ | refine gH fun hlen => ?_ | refine gI (by kernel_rfl) ?_ | refine gN rfl ?_ | refine gN (by omega) ?_ | refine gJ rfl ?_ | refine gK (by omega) ?_ | refine gL (by omega) ?_ | refine gK rfl ?_ | refine gO ?_); conv => whnf))
    (refine ⟨_, _, _, callG [] [] [] rfl rfl rfl (by kernel_rfl) (sp5) (by repeat' (first | exact trivial | exact Lent.refl _ | exact Lent.norm _ | apply And.intro)) rfl ⟨rfl, rfl, rfl, rfl, rfl, trivial, rfl, rfl⟩, ?_⟩; conv => whnf)
    repeat (first | refine gA ?_ | refine gB ?_ | refine gC rfl ?_ | refine gD rfl ?_ | ((first | refine gE env hN (by kernel_rfl) ?_ | refine gF ?_ | refine gG ?_ | refine gH fun hlen => ?_ | refine gI (by kernel_rfl) ?_ | refine gN rfl ?_ | refine gN (by omega) ?_ | refine gJ rfl ?_ | refine gK (by omega) ?_ | refine gL (by omega) ?_ | refine gK rfl ?_ | refine gO ?_); conv => whnf))
    refine ⟨⟨rowsSz_cons rfl rowsSz_nil, (List.length_set).symm⟩, hfit, .inl ⟨rfl, rfl, ?_⟩⟩
    conv => whnf
    repeat (first | refine gA ?_ | refine gB ?_ | refine gC rfl ?_ | refine gD rfl ?_ | ((first | refine gE env hN (by kernel_rfl) ?_ | refine gF ?_ | refine gG ?_ | refine gH fun hlen => ?_ | refine gI (by kernel_rfl) ?_ | refine gN rfl ?_ | refine gN (by omega) ?_ | refine gJ rfl ?_ | refine gK (by omega) ?_ | refine gL (by omega) ?_ | refine gK rfl ?_ | refine gO ?_); conv => whnf))
    have hr : (itemRows c.items).set (0 + (i : Int).toNat) [.int .i64 c.items[i].tab.id, .str c.items[i].tab.name, .sl (colRows c.items[i].tab.cols) false, .int .i64 c.items[i].from_, .int .i64 (c.version + 1)] ++ [(Item.mk t (c.version + 1) 0).row] = itemRows (closeAt c.items i (c.version + 1) ++ [Item.mk t (c.version + 1) 0]) := by
      rw [show 0 + (i : Int).toNat = i by omega, itemRows_close hi]; simp [itemRows]
    have hn : (itemRows c.items).length + 1 = (itemRows (closeAt c.items i (c.version + 1) ++ [Item.mk t (c.version + 1) 0])).length := by rw [itemRows_len, itemRows_len, List.length_append, closeAt_len]; rfl
    refine W.leG (mp := [(4, 4), (11, 11)]) (bo := []) (st' := ⟨[(4, .bp 4 0), (5, .int .i64 0)], [(4, [.rows 3 [[.int .i64 (c.version + 1), .int .i64 c.oldest, .osl 11 0 0 (itemRows (closeAt c.items i (c.version + 1) ++ [Item.mk t (c.version + 1) 0])).length (itemRows (closeAt c.items i (c.version + 1) ++ [Item.mk t (c.version + 1) 0])).length]] none]), (11, [.rows 5 (itemRows (closeAt c.items i (c.version + 1) ++ [Item.mk t (c.version + 1) 0])) (some [])])], [4, 11]⟩)
      (LeG.mk' rfl rfl rfl (by repeat' (first | exact trivial | exact ⟨_, .refl _, rfl⟩ | apply And.intro)) (.cons 4 rfl rfl (.refl _) (by rw [← hn]; rfl) (.cons 11 rfl rfl (.refl _) (by rw [← hr]; rfl) .nil)) rfl rfl (by rw [hK]; rfl)) ?_
    (refine gM ?_; conv => whnf)
    exact retH rfl (.refl _) rfl rfl rfl ⟨rfl, rfl, trivial⟩
set_option maxHeartbeats 4000000 in
theorem drop41_own (c : Coll) (id : Int) (h : (dropM c id).2 = 0) : Spec Tryd.prog 42 [.agg c.row, .int .i64 id] [] (.tup [ownColl 11 (dropM c id).1, .int .i64 0]) [(11, .rows 5 (itemRows (dropM c id).1.items) (some []))] := by
  obtain ⟨h1, ⟨i, hi, h5, h6⟩, h8⟩ := dropM_zero h
  have sp1 := valid41_spec c
  have sp3 := find41_spec c id
  have hcl := itemRows_len c.items
  have hfew := collB_few h1
  have hv0 : 0 ≤ c.version ∧ c.items.length ≤ 1024 ∧ c.version ≤ 1073741824 := by
    simp only [collB, Bool.and_eq_true, decide_eq_true_eq] at h1
    omega
  have sp4 := copy41_spec c hfew
  have h7 : ¬ ((i : Int) < 0) := by omega
  have h9 : ¬ (1073741824 ≤ c.version) := by omega
  have hm : dropM c id = (⟨c.version + 1, c.oldest, closeAt c.items i (c.version + 1)⟩, 0) := by simp [dropM, h1, h5, h9]
  rw [h1] at sp1
  rw [hm]
  unfold ownColl
  dsimp only
  rw [h5] at sp3
  refine Spec.body env Tryd.func42 rfl (by kernel_rfl) (Nat.le_of_ble_eq_true (by kernel_rfl)) (keysSub rfl) fun Γ hN hK => ?_; have hML : maxLen = 9223372036854775807 := by unfold maxLen; rfl
  repeat (first | refine gA ?_ | refine gB ?_ | refine gC rfl ?_ | refine gD rfl ?_ | ((first | refine gE env hN (by kernel_rfl) ?_ | refine gF ?_ | refine gG ?_ | refine gH fun hlen => ?_ | refine gI (by kernel_rfl) ?_ | refine gN rfl ?_ | refine gN (by omega) ?_ | refine gJ rfl ?_ | refine gK (by omega) ?_ | refine gL (by omega) ?_ | refine gK rfl ?_ | refine gO ?_); conv => whnf))
  (refine ⟨_, _, _, callG [] [] [] rfl rfl rfl (by kernel_rfl) (sp1) (by repeat' (first | exact trivial | exact Lent.refl _ | exact Lent.norm _ | apply And.intro)) rfl ⟨rfl, rfl, rfl, rfl, rfl, trivial, rfl, rfl⟩, ?_⟩; conv => whnf)
  repeat (first | refine gA ?_ | refine gB ?_ | refine gC rfl ?_ | refine gD rfl ?_ | ((first | refine gE env hN (by kernel_rfl) ?_ | refine gF ?_ | refine gG ?_ | refine gH fun hlen => ?_ | refine gI (by kernel_rfl) ?_ | refine gN rfl ?_ | refine gN (by omega) ?_ | refine gJ rfl ?_ | refine gK (by omega) ?_ | refine gL (by omega) ?_ | refine gK rfl ?_ | refine gO ?_); conv => whnf))
  (refine ⟨_, _, _, callG [] [] [] rfl rfl rfl (by kernel_rfl) (sp3) (by repeat' (first | exact trivial | exact Lent.refl _ | exact Lent.norm _ | apply And.intro)) rfl ⟨rfl, rfl, rfl, rfl, rfl, trivial, rfl, rfl⟩, ?_⟩; conv => whnf)
  repeat (first | refine gA ?_ | refine gB ?_ | refine gC rfl ?_ | refine gD rfl ?_ | ((first | refine gE env hN (by kernel_rfl) ?_ | refine gF ?_ | refine gG ?_ | refine gH fun hlen => ?_ | refine gI (by kernel_rfl) ?_ | refine gN rfl ?_ | refine gN (by omega) ?_ | refine gJ rfl ?_ | refine gK (by omega) ?_ | refine gL (by omega) ?_ | refine gK rfl ?_ | refine gO ?_); conv => whnf))
  (refine ⟨_, _, _, callG [] [(27, 11)] [] rfl rfl rfl (by kernel_rfl) (sp4) (by repeat' (first | exact trivial | exact Lent.refl _ | exact Lent.norm _ | apply And.intro)) rfl ⟨rfl, rfl, rfl, rfl, rfl, by repeat' (first | exact trivial | rfl | apply And.intro), rfl, rfl⟩, ?_⟩; conv => whnf)
  repeat (first | refine gA ?_ | refine gB ?_ | refine gC rfl ?_ | refine gD rfl ?_ | ((first | refine gE env hN (by kernel_rfl) ?_ | refine gF ?_ | refine gG ?_ | refine gH fun hlen => ?_ | refine gI (by kernel_rfl) ?_ | refine gN rfl ?_ | refine gN (by omega) ?_ | refine gJ rfl ?_ | refine gK (by omega) ?_ | refine gL (by omega) ?_ | refine gK rfl ?_ | refine gO ?_); conv => whnf))
  refine rowAt_of (by simpa using itemRows_get hi) ?_
  conv => whnf
  repeat (first | refine gA ?_ | refine gB ?_ | refine gC rfl ?_ | refine gD rfl ?_ | ((first | refine gE env hN (by kernel_rfl) ?_ | refine gF ?_ | refine gG ?_ | refine gH fun hlen => ?_ | refine gI (by kernel_rfl) ?_ | refine gN rfl ?_ | refine gN (by omega) ?_ | refine gJ rfl ?_ | refine gK (by omega) ?_ | refine gL (by omega) ?_ | refine gK rfl ?_ | refine gO ?_); conv => whnf))
  have hr : (itemRows c.items).set (0 + (i : Int).toNat) [.int .i64 c.items[i].tab.id, .str c.items[i].tab.name, .sl (colRows c.items[i].tab.cols) false, .int .i64 c.items[i].from_, .int .i64 (c.version + 1)] = itemRows (closeAt c.items i (c.version + 1)) := by
    rw [show 0 + (i : Int).toNat = i by omega, itemRows_close hi]
  have hn : (itemRows c.items).length = (itemRows (closeAt c.items i (c.version + 1))).length := by rw [itemRows_len, itemRows_len, closeAt_len]
  refine W.leG (mp := [(4, 4), (11, 11)]) (bo := []) (st' := ⟨[(4, .bp 4 0), (5, .int .i64 0)], [(4, [.rows 3 [[.int .i64 (c.version + 1), .int .i64 c.oldest, .osl 11 0 0 (itemRows (closeAt c.items i (c.version + 1))).length (itemRows (closeAt c.items i (c.version + 1))).length]] none]), (11, [.rows 5 (itemRows (closeAt c.items i (c.version + 1))) (some [])])], [4, 11]⟩)
    (LeG.mk' rfl rfl rfl (by repeat' (first | exact trivial | exact ⟨_, .refl _, rfl⟩ | apply And.intro)) (.cons 4 rfl rfl (.refl _) (by rw [← hn]; rfl) (.cons 11 rfl rfl (.refl _) (by rw [← hr]; rfl) .nil)) rfl rfl (by rw [hK]; rfl)) ?_
  (refine gM ?_; conv => whnf)
  exact retH rfl (.refl _) rfl rfl rfl ⟨rfl, rfl, trivial⟩
set_option maxHeartbeats 4000000 in
theorem vacuum41_own (c : Coll) (o : Int) (h : (vacM c o).2 = 0) : Spec Tryd.prog 39 [.agg c.row, .int .i64 o] [] (.tup [ownColl 51 (vacM c o).1, .int .i64 0]) [(51, .rows 5 (itemRows (vacM c o).1.items) (some []))] := by
  obtain ⟨h1, h2, h3⟩ := vacM_zero h
  have sp1 := valid41_spec c
  have hcl := itemRows_len c.items
  have hm : vacM c o = (⟨c.version, o, keepM o c.items⟩, 0) := by
    have : ¬ (o < c.oldest ∨ c.version < o) := by omega
    simp [vacM, h1, this]
  rw [hm]
  unfold ownColl
  dsimp only
  have hfew := collB_few h1
  have sp4 := copy41_spec c hfew
  have hf1 := hfew.1
  rw [h1] at sp1
  refine Spec.body env Tryd.func39 rfl (by kernel_rfl) (Nat.le_of_ble_eq_true (by kernel_rfl)) (keysSub rfl) fun Γ hN hK => ?_; have hML : maxLen = 9223372036854775807 := by unfold maxLen; rfl
  repeat (first | refine gA ?_ | refine gB ?_ | refine gC rfl ?_ | refine gD rfl ?_ | ((first | refine gE env hN (by kernel_rfl) ?_ | refine gF ?_ | refine gG ?_ | refine gH fun hlen => ?_ | refine gI (by kernel_rfl) ?_ | refine gN rfl ?_ | refine gN (by omega) ?_ | refine gJ rfl ?_ | refine gK (by omega) ?_ | refine gL (by omega) ?_ | refine gK rfl ?_ | refine gO ?_); conv => whnf))
  (refine ⟨_, _, _, callG [] [] [] rfl rfl rfl (by kernel_rfl) (sp1) (by repeat' (first | exact trivial | exact Lent.refl _ | exact Lent.norm _ | apply And.intro)) rfl ⟨rfl, rfl, rfl, rfl, rfl, trivial, rfl, rfl⟩, ?_⟩; conv => whnf)
  repeat (first | refine gA ?_ | refine gB ?_ | refine gC rfl ?_ | refine gD rfl ?_ | ((first | refine gE env hN (by kernel_rfl) ?_ | refine gF ?_ | refine gG ?_ | refine gH fun hlen => ?_ | refine gI (by kernel_rfl) ?_ | refine gN rfl ?_ | refine gN (by omega) ?_ | refine gJ rfl ?_ | refine gK (by omega) ?_ | refine gL (by omega) ?_ | refine gK rfl ?_ | refine gO ?_); conv => whnf))
  (refine ⟨_, _, _, callG [] [(27, 11)] [] rfl rfl rfl (by kernel_rfl) (sp4) (by repeat' (first | exact trivial | exact Lent.refl _ | exact Lent.norm _ | apply And.intro)) rfl ⟨rfl, rfl, rfl, rfl, rfl, by repeat' (first | exact trivial | rfl | apply And.intro), rfl, rfl⟩, ?_⟩; conv => whnf)
  repeat (first | refine gA ?_ | refine gB ?_ | refine gC rfl ?_ | refine gD rfl ?_ | ((first | refine gE env hN (by kernel_rfl) ?_ | refine gF ?_ | refine gG ?_ | refine gH fun hlen => ?_ | refine gI (by kernel_rfl) ?_ | refine gN rfl ?_ | refine gN (by omega) ?_ | refine gJ rfl ?_ | refine gK (by omega) ?_ | refine gL (by omega) ?_ | refine gK rfl ?_ | refine gO ?_); conv => whnf))
  refine W.ownCell 6 0 2 51 5 rfl rfl rfl rfl rfl ?_
  refine W.loopG (fun n st => ∃ k : Nat, k ≤ c.items.length ∧ n = c.items.length - k ∧ st = ⟨[(1, .int .i64 o), (4, .bp 4 0), (6, .bp 6 0), (32, .osl 11 0 0 (itemRows c.items).length (itemRows c.items).length), (33, .int .i64 (itemRows c.items).length), (34, .int .i64 k)], [(4, [.rows 3 [[.int .i64 0, .int .i64 0, .nils]] none]), (6, [.rows 3 [[.int .i64 c.version, .int .i64 o, .osl 51 0 0 (itemRows (keepM o (c.items.take k))).length (itemRows (keepM o (c.items.take k))).length]] none]), (11, [.rows 5 (itemRows c.items) (some [])]), (51, [.rows 5 (itemRows (keepM o (c.items.take k))) (some [])])], [4, 6, 11, 51]⟩)
    c.items.length _ ⟨0, Nat.zero_le _, rfl, rfl⟩ ⟨[(4, 4), (6, 6), (11, 11), (51, 51)], [], [], LeG.mk' rfl rfl rfl (by repeat' (first | exact trivial | exact ⟨_, .refl _, rfl⟩ | apply And.intro)) (.cons 4 rfl rfl (.refl _) rfl (.cons 6 rfl rfl (.refl _) rfl (.cons 11 rfl rfl (.refl _) rfl (.cons 51 rfl rfl (.refl _) rfl .nil)))) rfl rfl (by rw [hK]; rfl)⟩ ?_
  rintro n st ⟨k, hk, rfl, rfl⟩
  repeat (first | refine gA ?_ | refine gB ?_ | refine gC rfl ?_ | refine gD rfl ?_ | ((first | refine gE env hN (by kernel_rfl) ?_ | refine gF ?_ | refine gG ?_ | refine gH fun hlen => ?_ | refine gI (by kernel_rfl) ?_ | refine gN rfl ?_ | refine gN (by omega) ?_ | refine gJ rfl ?_ | refine gK (by omega) ?_ | refine gL (by omega) ?_ | refine gK rfl ?_ | refine gO ?_); conv => whnf))
  refine boolRes_split (fun hb => ?_) (fun hb => ?_) <;> conv => whnf
  · have hlt : k < c.items.length := by omega
    have hx := itemRows_get hlt
    have hlk : (keepM o (c.items.take (k + 1))) = if oldB o c.items[k] = true then keepM o (c.items.take k) else keepM o (c.items.take k) ++ [c.items[k]] := by
      unfold keepM
      rw [List.take_succ_eq_append_getElem hlt, List.filter_append]
      by_cases h : oldB o c.items[k] = true <;> simp [h]
    have hlim : (itemRows (keepM o (c.items.take k))).length ≤ k := by
      rw [itemRows_len]
      have h2 := keepM_len o (c.items.take k)
      have h3 : (c.items.take k).length ≤ k := by simp; omega
      omega
    generalize c.items[k] = x at *
    repeat (first | refine gA ?_ | refine gB ?_ | refine gC rfl ?_ | refine gD rfl ?_ | ((first | refine gE env hN (by kernel_rfl) ?_ | refine gF ?_ | refine gG ?_ | refine gH fun hlen => ?_ | refine gI (by kernel_rfl) ?_ | refine gN rfl ?_ | refine gN (by omega) ?_ | refine gJ rfl ?_ | refine gK (by omega) ?_ | refine gL (by omega) ?_ | refine gK rfl ?_ | refine gO ?_); conv => whnf))
    refine rowAt_of (by simpa using hx) ?_
    conv => whnf
    (
                                    (repeat (first | refine gA ?_ | refine gB ?_ | refine gC rfl ?_ | refine gD rfl ?_ | ((first | refine gE env hN (by kernel_rfl) ?_ | refine gF ?_ | refine gG ?_ | refine gH fun hlen => ?_ | refine gI (by kernel_rfl) ?_ | refine gN rfl ?_ | refine gN (by omega) ?_ | refine gJ rfl ?_ | refine gK (by omega) ?_ | refine gL (by omega) ?_ | refine gK rfl ?_ | refine gO ?_); conv => whnf)))
                                    first
                                      | (
                                        have hp : oldB o x = false := by simp [oldB]; omega
                                        rw [hp, if_neg (by simp)] at hlk
                                        refine ⟨⟨rowsSz_cons rfl rowsSz_nil, rfl⟩, fitN (n := (itemRows (keepM o (c.items.take k))).length + 1) (b := 64) (by omega) (by omega), .inl ⟨rfl, rfl, ?_⟩⟩
                                        conv => whnf
                                        repeat (first | refine gA ?_ | refine gB ?_ | refine gC rfl ?_ | refine gD rfl ?_ | ((first | refine gE env hN (by kernel_rfl) ?_ | refine gF ?_ | refine gG ?_ | refine gH fun hlen => ?_ | refine gI (by kernel_rfl) ?_ | refine gN rfl ?_ | refine gN (by omega) ?_ | refine gJ rfl ?_ | refine gK (by omega) ?_ | refine gL (by omega) ?_ | refine gK rfl ?_ | refine gO ?_); conv => whnf))
                                        have hn := itemRows_snoc (keepM o (c.items.take k)) x
                                        rw [← hlk] at hn
                                        refine ⟨_, _, ?_, ⟨k + 1, by omega, rfl, rfl⟩, [(4, 4), (6, 6), (11, 11), (51, 51)], [], [], LeG.mk' rfl rfl rfl (by repeat' (first | exact trivial | exact ⟨_, .refl _, rfl⟩ | apply And.intro)) (.cons 4 rfl rfl (.refl _) rfl (.cons 6 rfl rfl (.refl _) ?_ (.cons 11 rfl rfl (.refl _) rfl (.cons 51 rfl rfl (.refl _) ?_ .nil)))) rfl rfl (by rw [hK]; rfl)⟩
                                        · omega
                                        · rw [hn, List.length_append]; rfl
                                        · rw [hn]; rfl
                                        done)
                                      | (
                                        have hp : oldB o x = true := by simp [oldB]; omega
                                        rw [hp, if_pos rfl] at hlk
                                        refine ⟨_, _, ?_, ⟨k + 1, by omega, rfl, rfl⟩, [(4, 4), (6, 6), (11, 11), (51, 51)], [], [], LeG.mk' rfl rfl rfl (by repeat' (first | exact trivial | exact ⟨_, .refl _, rfl⟩ | apply And.intro)) (.cons 4 rfl rfl (.refl _) rfl (.cons 6 rfl rfl (.refl _) ?_ (.cons 11 rfl rfl (.refl _) rfl (.cons 51 rfl rfl (.refl _) ?_ .nil)))) rfl rfl (by rw [hK]; rfl)⟩
                                        · omega
                                        · rw [hlk]; rfl
                                        · rw [hlk]; rfl
                                        done)
                                      | ((refine boolRes_split (fun hb => ?_) (fun hb => ?_) <;> conv => whnf) <;> (
                                    (repeat (first | refine gA ?_ | refine gB ?_ | refine gC rfl ?_ | refine gD rfl ?_ | ((first | refine gE env hN (by kernel_rfl) ?_ | refine gF ?_ | refine gG ?_ | refine gH fun hlen => ?_ | refine gI (by kernel_rfl) ?_ | refine gN rfl ?_ | refine gN (by omega) ?_ | refine gJ rfl ?_ | refine gK (by omega) ?_ | refine gL (by omega) ?_ | refine gK rfl ?_ | refine gO ?_); conv => whnf)))
                                    first
                                      | (
                                        have hp : oldB o x = false := by simp [oldB]; omega
                                        rw [hp, if_neg (by simp)] at hlk
                                        refine ⟨⟨rowsSz_cons rfl rowsSz_nil, rfl⟩, fitN (n := (itemRows (keepM o (c.items.take k))).length + 1) (b := 64) (by omega) (by omega), .inl ⟨rfl, rfl, ?_⟩⟩
                                        conv => whnf
                                        repeat (first | refine gA ?_ | refine gB ?_ | refine gC rfl ?_ | refine gD rfl ?_ | ((first | refine gE env hN (by kernel_rfl) ?_ | refine gF ?_ | refine gG ?_ | refine gH fun hlen => ?_ | refine gI (by kernel_rfl) ?_ | refine gN rfl ?_ | refine gN (by omega) ?_ | refine gJ rfl ?_ | refine gK (by omega) ?_ | refine gL (by omega) ?_ | refine gK rfl ?_ | refine gO ?_); conv => whnf))
                                        have hn := itemRows_snoc (keepM o (c.items.take k)) x
                                        rw [← hlk] at hn
                                        refine ⟨_, _, ?_, ⟨k + 1, by omega, rfl, rfl⟩, [(4, 4), (6, 6), (11, 11), (51, 51)], [], [], LeG.mk' rfl rfl rfl (by repeat' (first | exact trivial | exact ⟨_, .refl _, rfl⟩ | apply And.intro)) (.cons 4 rfl rfl (.refl _) rfl (.cons 6 rfl rfl (.refl _) ?_ (.cons 11 rfl rfl (.refl _) rfl (.cons 51 rfl rfl (.refl _) ?_ .nil)))) rfl rfl (by rw [hK]; rfl)⟩
                                        · omega
                                        · rw [hn, List.length_append]; rfl
                                        · rw [hn]; rfl
                                        done)
                                      | (
                                        have hp : oldB o x = true := by simp [oldB]; omega
                                        rw [hp, if_pos rfl] at hlk
                                        refine ⟨_, _, ?_, ⟨k + 1, by omega, rfl, rfl⟩, [(4, 4), (6, 6), (11, 11), (51, 51)], [], [], LeG.mk' rfl rfl rfl (by repeat' (first | exact trivial | exact ⟨_, .refl _, rfl⟩ | apply And.intro)) (.cons 4 rfl rfl (.refl _) rfl (.cons 6 rfl rfl (.refl _) ?_ (.cons 11 rfl rfl (.refl _) rfl (.cons 51 rfl rfl (.refl _) ?_ .nil)))) rfl rfl (by rw [hK]; rfl)⟩
                                        · omega
                                        · rw [hlk]; rfl
                                        · rw [hlk]; rfl
                                        done)
                                      | ((refine boolRes_split (fun hb => ?_) (fun hb => ?_) <;> conv => whnf) <;> (
                                    (repeat (first | refine gA ?_ | refine gB ?_ | refine gC rfl ?_ | refine gD rfl ?_ | ((first | refine gE env hN (by kernel_rfl) ?_ | refine gF ?_ | refine gG ?_ | refine gH fun hlen => ?_ | refine gI (by kernel_rfl) ?_ | refine gN rfl ?_ | refine gN (by omega) ?_ | refine gJ rfl ?_ | refine gK (by omega) ?_ | refine gL (by omega) ?_ | refine gK rfl ?_ | refine gO ?_); conv => whnf)))
                                    first
                                      | (
                                        have hp : oldB o x = false := by simp [oldB]; omega
                                        rw [hp, if_neg (by simp)] at hlk
                                        refine ⟨⟨rowsSz_cons rfl rowsSz_nil, rfl⟩, fitN (n := (itemRows (keepM o (c.items.take k))).length + 1) (b := 64) (by omega) (by omega), .inl ⟨rfl, rfl, ?_⟩⟩
                                        conv => whnf
                                        repeat (first | refine gA ?_ | refine gB ?_ | refine gC rfl ?_ | refine gD rfl ?_ | ((first | refine gE env hN (by kernel_rfl) ?_ | refine gF ?_ | refine gG ?_ | refine gH fun hlen => ?_ | refine gI (by kernel_rfl) ?_ | refine gN rfl ?_ | refine gN (by omega) ?_ | refine gJ rfl ?_ | refine gK (by omega) ?_ | refine gL (by omega) ?_ | refine gK rfl ?_ | refine gO ?_); conv => whnf))
                                        have hn := itemRows_snoc (keepM o (c.items.take k)) x
                                        rw [← hlk] at hn
                                        refine ⟨_, _, ?_, ⟨k + 1, by omega, rfl, rfl⟩, [(4, 4), (6, 6), (11, 11), (51, 51)], [], [], LeG.mk' rfl rfl rfl (by repeat' (first | exact trivial | exact ⟨_, .refl _, rfl⟩ | apply And.intro)) (.cons 4 rfl rfl (.refl _) rfl (.cons 6 rfl rfl (.refl _) ?_ (.cons 11 rfl rfl (.refl _) rfl (.cons 51 rfl rfl (.refl _) ?_ .nil)))) rfl rfl (by rw [hK]; rfl)⟩
                                        · omega
                                        · rw [hn, List.length_append]; rfl
                                        · rw [hn]; rfl
                                        done)
                                      | (
                                        have hp : oldB o x = true := by simp [oldB]; omega
                                        rw [hp, if_pos rfl] at hlk
                                        refine ⟨_, _, ?_, ⟨k + 1, by omega, rfl, rfl⟩, [(4, 4), (6, 6), (11, 11), (51, 51)], [], [], LeG.mk' rfl rfl rfl (by repeat' (first | exact trivial | exact ⟨_, .refl _, rfl⟩ | apply And.intro)) (.cons 4 rfl rfl (.refl _) rfl (.cons 6 rfl rfl (.refl _) ?_ (.cons 11 rfl rfl (.refl _) rfl (.cons 51 rfl rfl (.refl _) ?_ .nil)))) rfl rfl (by rw [hK]; rfl)⟩
                                        · omega
                                        · rw [hlk]; rfl
                                        · rw [hlk]; rfl
                                        done)
                                      | ((refine boolRes_split (fun hb => ?_) (fun hb => ?_) <;> conv => whnf) <;> (
                                    (repeat (first | refine gA ?_ | refine gB ?_ | refine gC rfl ?_ | refine gD rfl ?_ | ((first | refine gE env hN (by kernel_rfl) ?_ | refine gF ?_ | refine gG ?_ | refine gH fun hlen => ?_ | refine gI (by kernel_rfl) ?_ | refine gN rfl ?_ | refine gN (by omega) ?_ | refine gJ rfl ?_ | refine gK (by omega) ?_ | refine gL (by omega) ?_ | refine gK rfl ?_ | refine gO ?_); conv => whnf)))
                                    first
                                      | (
                                        have hp : oldB o x = false := by simp [oldB]; omega
                                        rw [hp, if_neg (by simp)] at hlk
                                        refine ⟨⟨rowsSz_cons rfl rowsSz_nil, rfl⟩, fitN (n := (itemRows (keepM o (c.items.take k))).length + 1) (b := 64) (by omega) (by omega), .inl ⟨rfl, rfl, ?_⟩⟩
                                        conv => whnf
                                        repeat (first | refine gA ?_ | refine gB ?_ | refine gC rfl ?_ | refine gD rfl ?_ | ((first | refine gE env hN (by kernel_rfl) ?_ | refine gF ?_ | refine gG ?_ | refine gH fun hlen => ?_ | refine gI (by kernel_rfl) ?_ | refine gN rfl ?_ | refine gN (by omega) ?_ | refine gJ rfl ?_ | refine gK (by omega) ?_ | refine gL (by omega) ?_ | refine gK rfl ?_ | refine gO ?_); conv => whnf))
                                        have hn := itemRows_snoc (keepM o (c.items.take k)) x
                                        rw [← hlk] at hn
                                        refine ⟨_, _, ?_, ⟨k + 1, by omega, rfl, rfl⟩, [(4, 4), (6, 6), (11, 11), (51, 51)], [], [], LeG.mk' rfl rfl rfl (by repeat' (first | exact trivial | exact ⟨_, .refl _, rfl⟩ | apply And.intro)) (.cons 4 rfl rfl (.refl _) rfl (.cons 6 rfl rfl (.refl _) ?_ (.cons 11 rfl rfl (.refl _) rfl (.cons 51 rfl rfl (.refl _) ?_ .nil)))) rfl rfl (by rw [hK]; rfl)⟩
                                        · omega
                                        · rw [hn, List.length_append]; rfl
                                        · rw [hn]; rfl
                                        done)
                                      | (
                                        have hp : oldB o x = true := by simp [oldB]; omega
                                        rw [hp, if_pos rfl] at hlk
                                        refine ⟨_, _, ?_, ⟨k + 1, by omega, rfl, rfl⟩, [(4, 4), (6, 6), (11, 11), (51, 51)], [], [], LeG.mk' rfl rfl rfl (by repeat' (first | exact trivial | exact ⟨_, .refl _, rfl⟩ | apply And.intro)) (.cons 4 rfl rfl (.refl _) rfl (.cons 6 rfl rfl (.refl _) ?_ (.cons 11 rfl rfl (.refl _) rfl (.cons 51 rfl rfl (.refl _) ?_ .nil)))) rfl rfl (by rw [hK]; rfl)⟩
                                        · omega
                                        · rw [hlk]; rfl
                                        · rw [hlk]; rfl
                                        done)
                                      | ((refine boolRes_split (fun hb => ?_) (fun hb => ?_) <;> conv => whnf) <;> (
                                    (repeat (first | refine gA ?_ | refine gB ?_ | refine gC rfl ?_ | refine gD rfl ?_ | ((first | refine gE env hN (by kernel_rfl) ?_ | refine gF ?_ | refine gG ?_ | refine gH fun hlen => ?_ | refine gI (by kernel_rfl) ?_ | refine gN rfl ?_ | refine gN (by omega) ?_ | refine gJ rfl ?_ | refine gK (by omega) ?_ | refine gL (by omega) ?_ | refine gK rfl ?_ | refine gO ?_); conv => whnf)))
                                    first
                                      | (
                                        have hp : oldB o x = false := by simp [oldB]; omega
                                        rw [hp, if_neg (by simp)] at hlk
                                        refine ⟨⟨rowsSz_cons rfl rowsSz_nil, rfl⟩, fitN (n := (itemRows (keepM o (c.items.take k))).length + 1) (b := 64) (by omega) (by omega), .inl ⟨rfl, rfl, ?_⟩⟩
                                        conv => whnf
                                        repeat (first | refine gA ?_ | refine gB ?_ | refine gC rfl ?_ | refine gD rfl ?_ | ((first | refine gE env hN (by kernel_rfl) ?_ | refine gF ?_ | refine gG ?_ | refine gH fun hlen => ?_ | refine gI (by kernel_rfl) ?_ | refine gN rfl ?_ | refine gN (by omega) ?_ | refine gJ rfl ?_ | refine gK (by omega) ?_ | refine gL (by omega) ?_ | refine gK rfl ?_ | refine gO ?_); conv => whnf))
                                        have hn := itemRows_snoc (keepM o (c.items.take k)) x
                                        rw [← hlk] at hn
                                        refine ⟨_, _, ?_, ⟨k + 1, by omega, rfl, rfl⟩, [(4, 4), (6, 6), (11, 11), (51, 51)], [], [], LeG.mk' rfl rfl rfl (by repeat' (first | exact trivial | exact ⟨_, .refl _, rfl⟩ | apply And.intro)) (.cons 4 rfl rfl (.refl _) rfl (.cons 6 rfl rfl (.refl _) ?_ (.cons 11 rfl rfl (.refl _) rfl (.cons 51 rfl rfl (.refl _) ?_ .nil)))) rfl rfl (by rw [hK]; rfl)⟩
                                        · omega
                                        · rw [hn, List.length_append]; rfl
                                        · rw [hn]; rfl
                                        done)
                                      | (
                                        have hp : oldB o x = true := by simp [oldB]; omega
                                        rw [hp, if_pos rfl] at hlk
                                        refine ⟨_, _, ?_, ⟨k + 1, by omega, rfl, rfl⟩, [(4, 4), (6, 6), (11, 11), (51, 51)], [], [], LeG.mk' rfl rfl rfl (by repeat' (first | exact trivial | exact ⟨_, .refl _, rfl⟩ | apply And.intro)) (.cons 4 rfl rfl (.refl _) rfl (.cons 6 rfl rfl (.refl _) ?_ (.cons 11 rfl rfl (.refl _) rfl (.cons 51 rfl rfl (.refl _) ?_ .nil)))) rfl rfl (by rw [hK]; rfl)⟩
                                        · omega
                                        · rw [hlk]; rfl
                                        · rw [hlk]; rfl
                                        done)
                                      | ((refine boolRes_split (fun hb => ?_) (fun hb => ?_) <;> conv => whnf) <;> (
                                    (repeat (first | refine gA ?_ | refine gB ?_ | refine gC rfl ?_ | refine gD rfl ?_ | ((first | refine gE env hN (by kernel_rfl) ?_ | refine gF ?_ | refine gG ?_ | refine gH fun hlen => ?_ | refine gI (by kernel_rfl) ?_ | refine gN rfl ?_ | refine gN (by omega) ?_ | refine gJ rfl ?_ | refine gK (by omega) ?_ | refine gL (by omega) ?_ | refine gK rfl ?_ | refine gO ?_); conv => whnf)))
                                    first
                                      | (
                                        have hp : oldB o x = false := by simp [oldB]; omega
                                        rw [hp, if_neg (by simp)] at hlk
                                        refine ⟨⟨rowsSz_cons rfl rowsSz_nil, rfl⟩, fitN (n := (itemRows (keepM o (c.items.take k))).length + 1) (b := 64) (by omega) (by omega), .inl ⟨rfl, rfl, ?_⟩⟩
                                        conv => whnf
                                        repeat (first | refine gA ?_ | refine gB ?_ | refine gC rfl ?_ | refine gD rfl ?_ | ((first | refine gE env hN (by kernel_rfl) ?_ | refine gF ?_ | refine gG ?_ | refine gH fun hlen => ?_ | refine gI (by kernel_rfl) ?_ | refine gN rfl ?_ | refine gN (by omega) ?_ | refine gJ rfl ?_ | refine gK (by omega) ?_ | refine gL (by omega) ?_ | refine gK rfl ?_ | refine gO ?_); conv => whnf))
                                        have hn := itemRows_snoc (keepM o (c.items.take k)) x
                                        rw [← hlk] at hn
                                        refine ⟨_, _, ?_, ⟨k + 1, by omega, rfl, rfl⟩, [(4, 4), (6, 6), (11, 11), (51, 51)], [], [], LeG.mk' rfl rfl rfl (by repeat' (first | exact trivial | exact ⟨_, .refl _, rfl⟩ | apply And.intro)) (.cons 4 rfl rfl (.refl _) rfl (.cons 6 rfl rfl (.refl _) ?_ (.cons 11 rfl rfl (.refl _) rfl (.cons 51 rfl rfl (.refl _) ?_ .nil)))) rfl rfl (by rw [hK]; rfl)⟩
                                        · omega
                                        · rw [hn, List.length_append]; rfl
                                        · rw [hn]; rfl
                                        done)
                                      | (
                                        have hp : oldB o x = true := by simp [oldB]; omega
                                        rw [hp, if_pos rfl] at hlk
                                        refine ⟨_, _, ?_, ⟨k + 1, by omega, rfl, rfl⟩, [(4, 4), (6, 6), (11, 11), (51, 51)], [], [], LeG.mk' rfl rfl rfl (by repeat' (first | exact trivial | exact ⟨_, .refl _, rfl⟩ | apply And.intro)) (.cons 4 rfl rfl (.refl _) rfl (.cons 6 rfl rfl (.refl _) ?_ (.cons 11 rfl rfl (.refl _) rfl (.cons 51 rfl rfl (.refl _) ?_ .nil)))) rfl rfl (by rw [hK]; rfl)⟩
                                        · omega
                                        · rw [hlk]; rfl
                                        · rw [hlk]; rfl
                                        done)
                                      | ((refine boolRes_split (fun hb => ?_) (fun hb => ?_) <;> conv => whnf) <;> (
                                    (repeat (first | refine gA ?_ | refine gB ?_ | refine gC rfl ?_ | refine gD rfl ?_ | ((first | refine gE env hN (by kernel_rfl) ?_ | refine gF ?_ | refine gG ?_ | refine gH fun hlen => ?_ | refine gI (by kernel_rfl) ?_ | refine gN rfl ?_ | refine gN (by omega) ?_ | refine gJ rfl ?_ | refine gK (by omega) ?_ | refine gL (by omega) ?_ | refine gK rfl ?_ | refine gO ?_); conv => whnf)))
                                    first
                                      | (
                                        have hp : oldB o x = false := by simp [oldB]; omega
                                        rw [hp, if_neg (by simp)] at hlk
                                        refine ⟨⟨rowsSz_cons rfl rowsSz_nil, rfl⟩, fitN (n := (itemRows (keepM o (c.items.take k))).length + 1) (b := 64) (by omega) (by omega), .inl ⟨rfl, rfl, ?_⟩⟩
                                        conv => whnf
                                        repeat (first | refine gA ?_ | refine gB ?_ | refine gC rfl ?_ | refine gD rfl ?_ | ((first | refine gE env hN (by kernel_rfl) ?_ | refine gF ?_ | refine gG ?_ | refine gH fun hlen => ?_ | refine gI (by kernel_rfl) ?_ | refine gN rfl ?_ | refine gN (by omega) ?_ | refine gJ rfl ?_ | refine gK (by omega) ?_ | refine gL (by omega) ?_ | refine gK rfl ?_ | refine gO ?_); conv => whnf))
                                        have hn := itemRows_snoc (keepM o (c.items.take k)) x
                                        rw [← hlk] at hn
                                        refine ⟨_, _, ?_, ⟨k + 1, by omega, rfl, rfl⟩, [(4, 4), (6, 6), (11, 11), (51, 51)], [], [], LeG.mk' rfl rfl rfl (by repeat' (first | exact trivial | exact ⟨_, .refl _, rfl⟩ | apply And.intro)) (.cons 4 rfl rfl (.refl _) rfl (.cons 6 rfl rfl (.refl _) ?_ (.cons 11 rfl rfl (.refl _) rfl (.cons 51 rfl rfl (.refl _) ?_ .nil)))) rfl rfl (by rw [hK]; rfl)⟩
                                        · omega
                                        · rw [hn, List.length_append]; rfl
                                        · rw [hn]; rfl
                                        done)
                                      | (
                                        have hp : oldB o x = true := by simp [oldB]; omega
                                        rw [hp, if_pos rfl] at hlk
                                        refine ⟨_, _, ?_, ⟨k + 1, by omega, rfl, rfl⟩, [(4, 4), (6, 6), (11, 11), (51, 51)], [], [], LeG.mk' rfl rfl rfl (by repeat' (first | exact trivial | exact ⟨_, .refl _, rfl⟩ | apply And.intro)) (.cons 4 rfl rfl (.refl _) rfl (.cons 6 rfl rfl (.refl _) ?_ (.cons 11 rfl rfl (.refl _) rfl (.cons 51 rfl rfl (.refl _) ?_ .nil)))) rfl rfl (by rw [hK]; rfl)⟩
                                        · omega
                                        · rw [hlk]; rfl
                                        · rw [hlk]; rfl
                                        done)
                                      | ((refine boolRes_split (fun hb => ?_) (fun hb => ?_) <;> conv => whnf) <;> (
                                    (repeat (first | refine gA ?_ | refine gB ?_ | refine gC rfl ?_ | refine gD rfl ?_ | ((first | refine gE env hN (by kernel_rfl) ?_ | refine gF ?_ | refine gG ?_ | refine gH fun hlen => ?_ | refine gI (by kernel_rfl) ?_ | refine gN rfl ?_ | refine gN (by omega) ?_ | refine gJ rfl ?_ | refine gK (by omega) ?_ | refine gL (by omega) ?_ | refine gK rfl ?_ | refine gO ?_); conv => whnf)))
                                    first
                                      | (
                                        have hp : oldB o x = false := by simp [oldB]; omega
                                        rw [hp, if_neg (by simp)] at hlk
                                        refine ⟨⟨rowsSz_cons rfl rowsSz_nil, rfl⟩, fitN (n := (itemRows (keepM o (c.items.take k))).length + 1) (b := 64) (by omega) (by omega), .inl ⟨rfl, rfl, ?_⟩⟩
                                        conv => whnf
                                        repeat (first | refine gA ?_ | refine gB ?_ | refine gC rfl ?_ | refine gD rfl ?_ | ((first | refine gE env hN (by kernel_rfl) ?_ | refine gF ?_ | refine gG ?_ | refine gH fun hlen => ?_ | refine gI (by kernel_rfl) ?_ | refine gN rfl ?_ | refine gN (by omega) ?_ | refine gJ rfl ?_ | refine gK (by omega) ?_ | refine gL (by omega) ?_ | refine gK rfl ?_ | refine gO ?_); conv => whnf))
                                        have hn := itemRows_snoc (keepM o (c.items.take k)) x
                                        rw [← hlk] at hn
                                        refine ⟨_, _, ?_, ⟨k + 1, by omega, rfl, rfl⟩, [(4, 4), (6, 6), (11, 11), (51, 51)], [], [], LeG.mk' rfl rfl rfl (by repeat' (first | exact trivial | exact ⟨_, .refl _, rfl⟩ | apply And.intro)) (.cons 4 rfl rfl (.refl _) rfl (.cons 6 rfl rfl (.refl _) ?_ (.cons 11 rfl rfl (.refl _) rfl (.cons 51 rfl rfl (.refl _) ?_ .nil)))) rfl rfl (by rw [hK]; rfl)⟩
                                        · omega
                                        · rw [hn, List.length_append]; rfl
                                        · rw [hn]; rfl
                                        done)
                                      | (
                                        have hp : oldB o x = true := by simp [oldB]; omega
                                        rw [hp, if_pos rfl] at hlk
                                        refine ⟨_, _, ?_, ⟨k + 1, by omega, rfl, rfl⟩, [(4, 4), (6, 6), (11, 11), (51, 51)], [], [], LeG.mk' rfl rfl rfl (by repeat' (first | exact trivial | exact ⟨_, .refl _, rfl⟩ | apply And.intro)) (.cons 4 rfl rfl (.refl _) rfl (.cons 6 rfl rfl (.refl _) ?_ (.cons 11 rfl rfl (.refl _) rfl (.cons 51 rfl rfl (.refl _) ?_ .nil)))) rfl rfl (by rw [hK]; rfl)⟩
                                        · omega
                                        · rw [hlk]; rfl
                                        · rw [hlk]; rfl
                                        done)
                                      | ((refine boolRes_split (fun hb => ?_) (fun hb => ?_) <;> conv => whnf) <;> (
                                    (repeat (first | refine gA ?_ | refine gB ?_ | refine gC rfl ?_ | refine gD rfl ?_ | ((first | refine gE env hN (by kernel_rfl) ?_ | refine gF ?_ | refine gG ?_ | refine gH fun hlen => ?_ | refine gI (by kernel_rfl) ?_ | refine gN rfl ?_ | refine gN (by omega) ?_ | refine gJ rfl ?_ | refine gK (by omega) ?_ | refine gL (by omega) ?_ | refine gK rfl ?_ | refine gO ?_); conv => whnf)))
                                    first
                                      | (
                                        have hp : oldB o x = false := by simp [oldB]; omega
                                        rw [hp, if_neg (by simp)] at hlk
                                        refine ⟨⟨rowsSz_cons rfl rowsSz_nil, rfl⟩, fitN (n := (itemRows (keepM o (c.items.take k))).length + 1) (b := 64) (by omega) (by omega), .inl ⟨rfl, rfl, ?_⟩⟩
                                        conv => whnf
                                        repeat (first | refine gA ?_ | refine gB ?_ | refine gC rfl ?_ | refine gD rfl ?_ | ((first | refine gE env hN (by kernel_rfl) ?_ | refine gF ?_ | refine gG ?_ | refine gH fun hlen => ?_ | refine gI (by kernel_rfl) ?_ | refine gN rfl ?_ | refine gN (by omega) ?_ | refine gJ rfl ?_ | refine gK (by omega) ?_ | refine gL (by omega) ?_ | refine gK rfl ?_ | refine gO ?_); conv => whnf))
                                        have hn := itemRows_snoc (keepM o (c.items.take k)) x
                                        rw [← hlk] at hn
                                        refine ⟨_, _, ?_, ⟨k + 1, by omega, rfl, rfl⟩, [(4, 4), (6, 6), (11, 11), (51, 51)], [], [], LeG.mk' rfl rfl rfl (by repeat' (first | exact trivial | exact ⟨_, .refl _, rfl⟩ | apply And.intro)) (.cons 4 rfl rfl (.refl _) rfl (.cons 6 rfl rfl (.refl _) ?_ (.cons 11 rfl rfl (.refl _) rfl (.cons 51 rfl rfl (.refl _) ?_ .nil)))) rfl rfl (by rw [hK]; rfl)⟩
                                        · omega
                                        · rw [hn, List.length_append]; rfl
                                        · rw [hn]; rfl
                                        done)
                                      | (
                                        have hp : oldB o x = true := by simp [oldB]; omega
                                        rw [hp, if_pos rfl] at hlk
                                        refine ⟨_, _, ?_, ⟨k + 1, by omega, rfl, rfl⟩, [(4, 4), (6, 6), (11, 11), (51, 51)], [], [], LeG.mk' rfl rfl rfl (by repeat' (first | exact trivial | exact ⟨_, .refl _, rfl⟩ | apply And.intro)) (.cons 4 rfl rfl (.refl _) rfl (.cons 6 rfl rfl (.refl _) ?_ (.cons 11 rfl rfl (.refl _) rfl (.cons 51 rfl rfl (.refl _) ?_ .nil)))) rfl rfl (by rw [hK]; rfl)⟩
                                        · omega
                                        · rw [hlk]; rfl
                                        · rw [hlk]; rfl
                                        done)
                                      | ((refine boolRes_split (fun hb => ?_) (fun hb => ?_) <;> conv => whnf) <;> fail))))))))))))))))))
  · have hke : k = c.items.length := by omega
    subst hke
    rw [List.take_length]
    repeat (first | refine gA ?_ | refine gB ?_ | refine gC rfl ?_ | refine gD rfl ?_ | ((first | refine gE env hN (by kernel_rfl) ?_ | refine gF ?_ | refine gG ?_ | refine gH fun hlen => ?_ | refine gI (by kernel_rfl) ?_ | refine gN rfl ?_ | refine gN (by omega) ?_ | refine gJ rfl ?_ | refine gK (by omega) ?_ | refine gL (by omega) ?_ | refine gK rfl ?_ | refine gO ?_); conv => whnf))
    refine W.leG (mp := [(4, 4), (6, 6), (51, 51)]) (bo := []) (st' := ⟨[(4, .bp 4 0), (5, .int .i64 0)], [(4, [.rows 3 [[.int .i64 c.version, .int .i64 o, .osl 51 0 0 (itemRows (keepM o c.items)).length (itemRows (keepM o c.items)).length]] none]), (51, [.rows 5 (itemRows (keepM o c.items)) (some [])])], [4, 6, 51]⟩) (LeG.mk' rfl rfl rfl (by repeat' (first | exact trivial | exact ⟨_, .refl _, rfl⟩ | apply And.intro)) (.cons 4 rfl rfl (.refl _) rfl (.cons 51 rfl rfl (.refl _) rfl .nil)) rfl rfl (by rw [hK]; rfl)) ?_
    (refine gM ?_; conv => whnf)
    exact retH rfl (.refl _) rfl rfl rfl ⟨rfl, rfl, trivial⟩
end Go.Sx.Sp
namespace Go.Sx.Sp
open Go Go.Sx Go.Proofs
attribute [local irreducible] GoodW
theorem dropM_err {c : Coll} {id : Int} (h : (dropM c id).2 ≠ 0) : ∃ e : Int, e ≠ 0 ∧ dropM c id = (Coll.zero, e) := by
  unfold dropM at h ⊢
  split
  · split
    · exact ⟨5, by decide, rfl⟩
    · split
      · exact ⟨3, by decide, rfl⟩
      · rename_i h1 h2 h3
        simp [h1, h2, h3] at h
  · exact ⟨1, by decide, rfl⟩
set_option maxHeartbeats 8000000 in
theorem collection_own (l : List Int) (most : Nat) (p : Nat) (hp : p ≤ l.length) (hm : 1 ≤ most ∧ most ≤ 99) : Spec Tryd.prog 28 [.bp 0 0, .int .i64 most] [(0, diceB l p)] (ownColl 90 (collF l most p).1) [(0, diceB l (collF l most p).2), (90, .rows 5 (itemRows (collF l most p).1.items) (some []))] := by
  have hp1 := nextP_le hp
  have sp1 := next_spec l p most (by omega) hp
  have hr := nextV_range l p (n := most) (by omega)
  have hdef : collF l most p = collRun l (1 + (nextV l p most).toNat) (Coll.zero, nextP l p) := rfl
  rw [hdef]
  generalize hres : collRun l (1 + (nextV l p most).toNat) (Coll.zero, nextP l p) = res
  generalize nextP l p = p1 at *
  generalize nextV l p most = m at *
  clear hdef
  unfold ownColl
  refine Spec.body env Tryd.func28 rfl (by kernel_rfl) (Nat.le_of_ble_eq_true (by kernel_rfl)) (keysSub rfl) fun Γ hN hK => ?_; have hML : maxLen = 9223372036854775807 := by unfold maxLen; rfl
  repeat (first | refine gA ?_ | refine gB ?_ | refine gC rfl ?_ | refine gD rfl ?_ | ((first | refine gE env hN (by kernel_rfl) ?_ | refine gF ?_ | refine gG ?_ | refine gH fun hlen => ?_ | refine gI (by kernel_rfl) ?_ | refine gN rfl ?_ | refine gN (by omega) ?_ | refine gJ rfl ?_ | refine gK (by omega) ?_ | refine gL (by omega) ?_ | refine gK rfl ?_ | refine gO ?_); conv => whnf))
  (refine ⟨_, _, _, callG [(0, 0)] [] [] rfl rfl rfl (by kernel_rfl) (sp1) (by repeat' (first | exact trivial | exact Lent.refl _ | exact Lent.norm _ | exact Lent.whole rfl rfl (by first | rfl | exact List.length_append.symm | exact hlenR | simp) rfl (by first | exact .inl rfl | exact .inr rfl) | apply And.intro)) rfl ⟨rfl, rfl, rfl, rfl, rfl, by repeat' (first | exact trivial | rfl | apply And.intro), rfl, rfl⟩, ?_⟩; conv => whnf)
  repeat (first | refine gA ?_ | refine gB ?_ | refine gC rfl ?_ | refine gD rfl ?_ | ((first | refine gE env hN (by kernel_rfl) ?_ | refine gF ?_ | refine gG ?_ | refine gH fun hlen => ?_ | refine gI (by kernel_rfl) ?_ | refine gN rfl ?_ | refine gN (by omega) ?_ | refine gJ rfl ?_ | refine gK (by omega) ?_ | refine gL (by omega) ?_ | refine gK rfl ?_ | refine gO ?_); conv => whnf))
  refine W.ownCell 5 0 2 90 5 rfl rfl rfl rfl rfl ?_
  refine W.loopG (fun n st => ∃ (k q j : Nat) (c : Coll), j + k ≤ 100 ∧ Inv j c ∧ q ≤ l.length ∧ collRun l k (c, q) = res ∧ n = k ∧ st = ⟨[(0, .bp 0 0), (4, .bp 4 0), (5, .bp 5 0), (6, .int .i64 k)], [(0, [diceB l q]), (4, [.rows 3 [[.int .i64 0, .int .i64 0, .nils]] none]), (5, [.rows 3 [[.int .i64 (c).version, .int .i64 (c).oldest, .osl 90 0 0 (itemRows (c).items).length (itemRows (c).items).length]] none]), (90, [.rows 5 (itemRows (c).items) (some [])])], [0, 4, 5, 90]⟩)
    (1 + m.toNat) _ ⟨1 + m.toNat, p1, 0, Coll.zero, by omega, Inv.zero, hp1, hres, rfl, rfl⟩ ⟨[(0, 0), (4, 4), (5, 5), (90, 90)], [], [], LeG.mk' rfl rfl rfl (by repeat' (first | exact trivial | exact ⟨_, .refl _, rfl⟩ | exact ⟨_, .refl _, congrArg (V.int .i64) (by omega)⟩ | apply And.intro)) (.cons 0 rfl rfl (.refl _) rfl (.cons 4 rfl rfl (.refl _) rfl (.cons 5 rfl rfl (.refl _) rfl (.cons 90 rfl rfl (.refl _) rfl .nil)))) rfl rfl (by rw [hK]; rfl)⟩ ?_
  rintro n st ⟨k, q, j, c, hjk, hinv, hq, hrun, hn, rfl⟩
  repeat (first | refine gA ?_ | refine gB ?_ | refine gC rfl ?_ | refine gD rfl ?_ | ((first | refine gE env hN (by kernel_rfl) ?_ | refine gF ?_ | refine gG ?_ | refine gH fun hlen => ?_ | refine gI (by kernel_rfl) ?_ | refine gN rfl ?_ | refine gN (by omega) ?_ | refine gJ rfl ?_ | refine gK (by omega) ?_ | refine gL (by omega) ?_ | refine gK rfl ?_ | refine gO ?_); conv => whnf))
  refine boolRes_split (fun hb => ?_) (fun hb => ?_) <;> conv => whnf
  · obtain ⟨k, rfl⟩ : ∃ j, k = j + 1 := ⟨k - 1, by omega⟩
    have hq1 := nextP_le hq
    have hq2 := nextP_le hq1
    have hstep := collStep_le (l := l) (s := (c, q)) hq
    have hinv2 := collStep_inv (l := l) (s := (c, q)) (by omega) hq hinv
    simp only [collRun] at hrun
    have sp2 := next_spec l q 5 (by omega) hq
    have sp3 := next_spec l (nextP l q) 4 (by omega) hq1
    have hr2 := nextV_range l (nextP l q) (n := 4) (by omega)
    repeat (first | refine gA ?_ | refine gB ?_ | refine gC rfl ?_ | refine gD rfl ?_ | ((first | refine gE env hN (by kernel_rfl) ?_ | refine gF ?_ | refine gG ?_ | refine gH fun hlen => ?_ | refine gI (by kernel_rfl) ?_ | refine gN rfl ?_ | refine gN (by omega) ?_ | refine gJ rfl ?_ | refine gK (by omega) ?_ | refine gL (by omega) ?_ | refine gK rfl ?_ | refine gO ?_); conv => whnf))
    (refine ⟨_, _, _, callG [(0, 0)] [] [] rfl rfl rfl (by kernel_rfl) (sp2) (by repeat' (first | exact trivial | exact Lent.refl _ | exact Lent.norm _ | exact Lent.whole rfl rfl (by first | rfl | exact List.length_append.symm | exact hlenR | simp) rfl (by first | exact .inl rfl | exact .inr rfl) | apply And.intro)) rfl ⟨rfl, rfl, rfl, rfl, rfl, by repeat' (first | exact trivial | rfl | apply And.intro), rfl, rfl⟩, ?_⟩; conv => whnf)
    repeat (first | refine gA ?_ | refine gB ?_ | refine gC rfl ?_ | refine gD rfl ?_ | ((first | refine gE env hN (by kernel_rfl) ?_ | refine gF ?_ | refine gG ?_ | refine gH fun hlen => ?_ | refine gI (by kernel_rfl) ?_ | refine gN rfl ?_ | refine gN (by omega) ?_ | refine gJ rfl ?_ | refine gK (by omega) ?_ | refine gL (by omega) ?_ | refine gK rfl ?_ | refine gO ?_); conv => whnf))
    refine boolRes_split (fun hb => ?_) (fun hb => ?_) <;> conv => whnf
    · have hcs : collStep l (c, q) = ((if (dropM c (1 + nextV l (nextP l q) 4)).2 = 0 then (dropM c (1 + nextV l (nextP l q) 4)).1 else c), nextP l (nextP l q)) := by simp [collStep, hb]
      rw [hcs] at hrun hstep hinv2
      by_cases hd : (dropM c (1 + nextV l (nextP l q) 4)).2 = 0
      · rw [if_pos hd] at hrun hinv2
        have sp4 := drop41_own c (1 + nextV l (nextP l q) 4) hd
        refine W.leG (mp := [(0, 0), (4, 4), (5, 5)]) (bo := [90]) (st' := ⟨[(0, .bp 0 0), (4, .bp 4 0), (5, .bp 5 0), (6, .int .i64 ((k + 1 : Nat) : Int)), (19, .bool true)], [(0, [diceB l (nextP l q)]), (4, [.rows 3 [[.int .i64 0, .int .i64 0, .nils]] none]), (5, [.rows 3 [c.row] none])], [0, 4, 5]⟩)
          (LeG.mk' rfl rfl rfl (by repeat' (first | exact trivial | exact ⟨_, .refl _, rfl⟩ | apply And.intro)) (.cons 0 rfl rfl (.refl _) rfl (.cons 4 rfl rfl (.refl _) rfl (.cons 5 (b1 := .rows 3 [c.row] none) rfl rfl (.rows _ _ _ (by repeat' (first | exact trivial | exact ⟨Lent.refl _, rfl⟩ | exact ⟨Lent.norm _, rfl⟩ | exact ⟨Lent.whole rfl rfl (by first | rfl | exact List.length_append.symm | exact hlenR | simp) rfl (by first | exact .inl rfl | exact .inr rfl), rfl⟩ | apply And.intro))) rfl .nil))) rfl rfl (by rw [hK]; rfl)) ?_
        repeat (first | refine gA ?_ | refine gB ?_ | refine gC rfl ?_ | refine gD rfl ?_ | ((first | refine gE env hN (by kernel_rfl) ?_ | refine gF ?_ | refine gG ?_ | refine gH fun hlen => ?_ | refine gI (by kernel_rfl) ?_ | refine gN rfl ?_ | refine gN (by omega) ?_ | refine gJ rfl ?_ | refine gK (by omega) ?_ | refine gL (by omega) ?_ | refine gK rfl ?_ | refine gO ?_); conv => whnf))
        (refine ⟨_, _, _, callG [(0, 0)] [] [] rfl rfl rfl (by kernel_rfl) (sp3) (by repeat' (first | exact trivial | exact Lent.refl _ | exact Lent.norm _ | exact Lent.whole rfl rfl (by first | rfl | exact List.length_append.symm | exact hlenR | simp) rfl (by first | exact .inl rfl | exact .inr rfl) | apply And.intro)) rfl ⟨rfl, rfl, rfl, rfl, rfl, by repeat' (first | exact trivial | rfl | apply And.intro), rfl, rfl⟩, ?_⟩; conv => whnf)
        repeat (first | refine gA ?_ | refine gB ?_ | refine gC rfl ?_ | refine gD rfl ?_ | ((first | refine gE env hN (by kernel_rfl) ?_ | refine gF ?_ | refine gG ?_ | refine gH fun hlen => ?_ | refine gI (by kernel_rfl) ?_ | refine gN rfl ?_ | refine gN (by omega) ?_ | refine gJ rfl ?_ | refine gK (by omega) ?_ | refine gL (by omega) ?_ | refine gK rfl ?_ | refine gO ?_); conv => whnf))
        (refine ⟨_, _, _, callG [] [(11, 91)] [] rfl rfl rfl (by kernel_rfl) (sp4) (by repeat' (first | exact trivial | exact Lent.refl _ | exact Lent.norm _ | apply And.intro)) rfl ⟨rfl, rfl, rfl, rfl, rfl, by repeat' (first | exact trivial | rfl | apply And.intro), rfl, rfl⟩, ?_⟩; conv => whnf)
        repeat (first | refine gA ?_ | refine gB ?_ | refine gC rfl ?_ | refine gD rfl ?_ | ((first | refine gE env hN (by kernel_rfl) ?_ | refine gF ?_ | refine gG ?_ | refine gH fun hlen => ?_ | refine gI (by kernel_rfl) ?_ | refine gN rfl ?_ | refine gN (by omega) ?_ | refine gJ rfl ?_ | refine gK (by omega) ?_ | refine gL (by omega) ?_ | refine gK rfl ?_ | refine gO ?_); conv => whnf))
        refine ⟨_, _, ?_, ⟨k, _, j + 1, _, by omega, hinv2, hstep, hrun, rfl, rfl⟩, [(0, 0), (4, 4), (5, 5), (91, 90)], [], [], LeG.mk' rfl rfl rfl (by repeat' (first | exact trivial | exact ⟨_, .refl _, rfl⟩ | exact ⟨_, .refl _, congrArg (V.int .i64) (by omega)⟩ | apply And.intro)) (.cons 0 rfl rfl (.refl _) rfl (.cons 4 rfl rfl (.refl _) rfl (.cons 5 rfl rfl (.refl _) rfl (.cons 91 rfl rfl (.refl _) rfl .nil)))) rfl rfl (by rw [hK]; rfl)⟩
        omega
      · rw [if_neg hd] at hrun hinv2
        obtain ⟨e, he, hde⟩ := dropM_err hd
        have sp4 := drop41_spec c (1 + nextV l (nextP l q) 4)
        rw [hde] at sp4
        dsimp only at sp4
        repeat (first | refine gA ?_ | refine gB ?_ | refine gC rfl ?_ | refine gD rfl ?_ | ((first | refine gE env hN (by kernel_rfl) ?_ | refine gF ?_ | refine gG ?_ | refine gH fun hlen => ?_ | refine gI (by kernel_rfl) ?_ | refine gN rfl ?_ | refine gN (by omega) ?_ | refine gJ rfl ?_ | refine gK (by omega) ?_ | refine gL (by omega) ?_ | refine gK rfl ?_ | refine gO ?_); conv => whnf))
        (refine ⟨_, _, _, callG [(0, 0)] [] [] rfl rfl rfl (by kernel_rfl) (sp3) (by repeat' (first | exact trivial | exact Lent.refl _ | exact Lent.norm _ | exact Lent.whole rfl rfl (by first | rfl | exact List.length_append.symm | exact hlenR | simp) rfl (by first | exact .inl rfl | exact .inr rfl) | apply And.intro)) rfl ⟨rfl, rfl, rfl, rfl, rfl, by repeat' (first | exact trivial | rfl | apply And.intro), rfl, rfl⟩, ?_⟩; conv => whnf)
        repeat (first | refine gA ?_ | refine gB ?_ | refine gC rfl ?_ | refine gD rfl ?_ | ((first | refine gE env hN (by kernel_rfl) ?_ | refine gF ?_ | refine gG ?_ | refine gH fun hlen => ?_ | refine gI (by kernel_rfl) ?_ | refine gN rfl ?_ | refine gN (by omega) ?_ | refine gJ rfl ?_ | refine gK (by omega) ?_ | refine gL (by omega) ?_ | refine gK rfl ?_ | refine gO ?_); conv => whnf))
        (refine ⟨_, _, _, callG [] [] [90] rfl rfl rfl (by kernel_rfl) (sp4) (by exact ⟨Lent.row ⟨⟨.refl _, rfl⟩, ⟨.refl _, rfl⟩, ⟨Lent.whole rfl rfl rfl rfl (.inl rfl), rfl⟩, trivial⟩, .refl _, trivial⟩) rfl ⟨rfl, rfl, rfl, rfl, rfl, by repeat' (first | exact trivial | rfl | apply And.intro), rfl, rfl⟩, ?_⟩; conv => whnf)
        repeat (first | refine gA ?_ | refine gB ?_ | refine gC rfl ?_ | refine gD rfl ?_ | ((first | refine gE env hN (by kernel_rfl) ?_ | refine gF ?_ | refine gG ?_ | refine gH fun hlen => ?_ | refine gI (by kernel_rfl) ?_ | refine gN rfl ?_ | refine gN (by omega) ?_ | refine gJ rfl ?_ | refine gK (by omega) ?_ | refine gL (by omega) ?_ | refine gK rfl ?_ | refine gO ?_); conv => whnf))
        refine ⟨_, _, ?_, ⟨k, _, j + 1, _, by omega, hinv2, hstep, hrun, rfl, rfl⟩, [(0, 0), (4, 4), (5, 5), (90, 90)], [], [], LeG.mk' rfl rfl rfl (by repeat' (first | exact trivial | exact ⟨_, .refl _, rfl⟩ | exact ⟨_, .refl _, congrArg (V.int .i64) (by omega)⟩ | apply And.intro)) (.cons 0 rfl rfl (.refl _) rfl (.cons 4 rfl rfl (.refl _) rfl (.cons 5 rfl rfl (.refl _) rfl (.cons 90 rfl rfl (.refl _) rfl .nil)))) rfl rfl (by rw [hK]; rfl)⟩
        omega
    · have hcs : collStep l (c, q) = ((putM c (tblF l (1 + nextV l (nextP l q) 4) (nextP l (nextP l q))).1).1, (tblF l (1 + nextV l (nextP l q) 4) (nextP l (nextP l q))).2) := by simp [collStep, hb]
      rw [hcs] at hrun hstep hinv2
      have sp4 := table_spec l (1 + nextV l (nextP l q) 4) (nextP l (nextP l q)) hq2
      obtain ⟨t1, t2, _⟩ := tblF_ok (l := l) (id := 1 + nextV l (nextP l q) 4) hq2
      have hv := hinv.ver
      have hl := hinv.len
      have hp0 := (put_ok hinv.ok (table_good t1 (by rw [t2]; omega)) (by rw [t2]; omega) (by omega) (by omega)).1
      have sp5 := put41_own c (tblF l (1 + nextV l (nextP l q) 4) (nextP l (nextP l q))).1 hp0
      refine W.leG (mp := [(0, 0), (4, 4), (5, 5)]) (bo := [90]) (st' := ⟨[(0, .bp 0 0), (4, .bp 4 0), (5, .bp 5 0), (6, .int .i64 ((k + 1 : Nat) : Int)), (19, .bool false)], [(0, [diceB l (nextP l q)]), (4, [.rows 3 [[.int .i64 0, .int .i64 0, .nils]] none]), (5, [.rows 3 [c.row] none])], [0, 4, 5]⟩)
        (LeG.mk' rfl rfl rfl (by repeat' (first | exact trivial | exact ⟨_, .refl _, rfl⟩ | apply And.intro)) (.cons 0 rfl rfl (.refl _) rfl (.cons 4 rfl rfl (.refl _) rfl (.cons 5 (b1 := .rows 3 [c.row] none) rfl rfl (.rows _ _ _ (by repeat' (first | exact trivial | exact ⟨Lent.refl _, rfl⟩ | exact ⟨Lent.norm _, rfl⟩ | exact ⟨Lent.whole rfl rfl (by first | rfl | exact List.length_append.symm | exact hlenR | simp) rfl (by first | exact .inl rfl | exact .inr rfl), rfl⟩ | apply And.intro))) rfl .nil))) rfl rfl (by rw [hK]; rfl)) ?_
      repeat (first | refine gA ?_ | refine gB ?_ | refine gC rfl ?_ | refine gD rfl ?_ | ((first | refine gE env hN (by kernel_rfl) ?_ | refine gF ?_ | refine gG ?_ | refine gH fun hlen => ?_ | refine gI (by kernel_rfl) ?_ | refine gN rfl ?_ | refine gN (by omega) ?_ | refine gJ rfl ?_ | refine gK (by omega) ?_ | refine gL (by omega) ?_ | refine gK rfl ?_ | refine gO ?_); conv => whnf))
      (refine ⟨_, _, _, callG [(0, 0)] [] [] rfl rfl rfl (by kernel_rfl) (sp3) (by repeat' (first | exact trivial | exact Lent.refl _ | exact Lent.norm _ | exact Lent.whole rfl rfl (by first | rfl | exact List.length_append.symm | exact hlenR | simp) rfl (by first | exact .inl rfl | exact .inr rfl) | apply And.intro)) rfl ⟨rfl, rfl, rfl, rfl, rfl, by repeat' (first | exact trivial | rfl | apply And.intro), rfl, rfl⟩, ?_⟩; conv => whnf)
      repeat (first | refine gA ?_ | refine gB ?_ | refine gC rfl ?_ | refine gD rfl ?_ | ((first | refine gE env hN (by kernel_rfl) ?_ | refine gF ?_ | refine gG ?_ | refine gH fun hlen => ?_ | refine gI (by kernel_rfl) ?_ | refine gN rfl ?_ | refine gN (by omega) ?_ | refine gJ rfl ?_ | refine gK (by omega) ?_ | refine gL (by omega) ?_ | refine gK rfl ?_ | refine gO ?_); conv => whnf))
      (refine ⟨_, _, _, callG [(0, 0)] [] [] rfl rfl rfl (by kernel_rfl) (sp4) (by repeat' (first | exact trivial | exact Lent.refl _ | exact Lent.norm _ | exact Lent.whole rfl rfl (by first | rfl | exact List.length_append.symm | exact hlenR | simp) rfl (by first | exact .inl rfl | exact .inr rfl) | apply And.intro)) rfl ⟨rfl, rfl, rfl, rfl, rfl, by repeat' (first | exact trivial | rfl | apply And.intro), rfl, rfl⟩, ?_⟩; conv => whnf)
      repeat (first | refine gA ?_ | refine gB ?_ | refine gC rfl ?_ | refine gD rfl ?_ | ((first | refine gE env hN (by kernel_rfl) ?_ | refine gF ?_ | refine gG ?_ | refine gH fun hlen => ?_ | refine gI (by kernel_rfl) ?_ | refine gN rfl ?_ | refine gN (by omega) ?_ | refine gJ rfl ?_ | refine gK (by omega) ?_ | refine gL (by omega) ?_ | refine gK rfl ?_ | refine gO ?_); conv => whnf))
      (refine ⟨_, _, _, callG [] [(11, 91)] [] rfl rfl rfl (by kernel_rfl) (sp5) (by repeat' (first | exact trivial | exact Lent.refl _ | exact Lent.norm _ | apply And.intro)) rfl ⟨rfl, rfl, rfl, rfl, rfl, by repeat' (first | exact trivial | rfl | apply And.intro), rfl, rfl⟩, ?_⟩; conv => whnf)
      repeat (first | refine gA ?_ | refine gB ?_ | refine gC rfl ?_ | refine gD rfl ?_ | ((first | refine gE env hN (by kernel_rfl) ?_ | refine gF ?_ | refine gG ?_ | refine gH fun hlen => ?_ | refine gI (by kernel_rfl) ?_ | refine gN rfl ?_ | refine gN (by omega) ?_ | refine gJ rfl ?_ | refine gK (by omega) ?_ | refine gL (by omega) ?_ | refine gK rfl ?_ | refine gO ?_); conv => whnf))
      refine ⟨_, _, ?_, ⟨k, _, j + 1, _, by omega, hinv2, hstep, hrun, rfl, rfl⟩, [(0, 0), (4, 4), (5, 5), (91, 90)], [], [], LeG.mk' rfl rfl rfl (by repeat' (first | exact trivial | exact ⟨_, .refl _, rfl⟩ | exact ⟨_, .refl _, congrArg (V.int .i64) (by omega)⟩ | apply And.intro)) (.cons 0 rfl rfl (.refl _) rfl (.cons 4 rfl rfl (.refl _) rfl (.cons 5 rfl rfl (.refl _) rfl (.cons 91 rfl rfl (.refl _) rfl .nil)))) rfl rfl (by rw [hK]; rfl)⟩
      omega
  · have hk0 : k = 0 := by omega
    subst hk0
    simp only [collRun] at hrun
    rw [← hrun]
    repeat (first | refine gA ?_ | refine gB ?_ | refine gC rfl ?_ | refine gD rfl ?_ | ((first | refine gE env hN (by kernel_rfl) ?_ | refine gF ?_ | refine gG ?_ | refine gH fun hlen => ?_ | refine gI (by kernel_rfl) ?_ | refine gN rfl ?_ | refine gN (by omega) ?_ | refine gJ rfl ?_ | refine gK (by omega) ?_ | refine gL (by omega) ?_ | refine gK rfl ?_ | refine gO ?_); conv => whnf))
    (refine gM ?_; conv => whnf)
    exact retH rfl (.refl _) rfl rfl rfl ⟨rfl, rfl, rfl, rfl, trivial⟩
end Go.Sx.Sp
namespace Go.Sx.Sp
open Go Go.Sx Go.Proofs Go.RowKit
attribute [local irreducible] GoodW
theorem wf_cells {n : Nat} {rows : List (List V)} (hs : ∀ r ∈ rows, shape T (n + 2) 45 r) : ∃ l : List Cell, rows = cellRows l := by
  obtain ⟨l, h, _⟩ := rows_map (f := Cell.row) (p := fun _ => True) (rows := rows) fun r hr => by
    obtain ⟨a, b, rfl, ha, c, d, rfl, hc, rfl⟩ := shape_st (T := T) (t := 45) rfl (hs r hr)
    obtain ⟨x, rfl⟩ := shape_bool (T := T) (t := 4) rfl ha
    obtain ⟨y, rfl, _⟩ := shape_str (T := T) (t := 9) rfl hc
    exact ⟨⟨x, y⟩, rfl, trivial⟩
  exact ⟨l, h⟩
theorem wf_cols {n : Nat} {rows : List (List V)} (hs : ∀ r ∈ rows, shape T (n + 4) 43 r) : ∃ l : List Column, rows = colRows l := by
  obtain ⟨l, h, _⟩ := rows_map (f := Column.row) (p := fun _ => True) (rows := rows) fun r hr => by
    obtain ⟨a, b, rfl, ha, c, d, rfl, hc, rfl⟩ := shape_st (T := T) (t := 43) rfl (hs r hr)
    obtain ⟨x, rfl, _⟩ := shape_str (T := T) (t := 9) rfl ha
    obtain ⟨q, rfl, _, hq⟩ := shape_sl (T := T) (t := 31) rfl hc
    obtain ⟨y, rfl⟩ := wf_cells hq
    exact ⟨⟨x, y⟩, rfl, trivial⟩
  exact ⟨l, h⟩
theorem wf_table {n : Nat} {vs : List V} (hs : shape T (n + 6) 29 vs) : ∃ t : Table, vs = t.row := by
  obtain ⟨a, b, rfl, ha, c, d, rfl, hc, e, f, rfl, he, rfl⟩ := shape_st (T := T) (t := 29) rfl hs
  obtain ⟨x, rfl, _⟩ := shape_int (T := T) (t := 3) rfl ha
  obtain ⟨y, rfl, _⟩ := shape_str (T := T) (t := 9) rfl hc
  obtain ⟨q, rfl, _, hq⟩ := shape_sl (T := T) (t := 27) rfl he
  obtain ⟨z, rfl⟩ := wf_cols hq
  exact ⟨⟨x, y, z⟩, rfl⟩
theorem wf_items {n : Nat} {rows : List (List V)} (hs : ∀ r ∈ rows, shape T (n + 7) 67 r) : ∃ l : List Item, rows = itemRows l := by
  obtain ⟨l, h, _⟩ := rows_map (f := Item.row) (p := fun _ => True) (rows := rows) fun r hr => by
    obtain ⟨a, b, rfl, ha, c, d, rfl, hc, e, f, rfl, he, rfl⟩ := shape_st (T := T) (t := 67) rfl (hs r hr)
    obtain ⟨t, rfl⟩ := wf_table ha
    obtain ⟨x, rfl, _⟩ := shape_int (T := T) (t := 3) rfl hc
    obtain ⟨y, rfl, _⟩ := shape_int (T := T) (t := 3) rfl he
    exact ⟨⟨t, x, y⟩, rfl, trivial⟩
  exact ⟨l, h⟩
theorem arg_table {n : Nat} {u : V} (hs : argShape T (n + 6) 29 u) : ∃ t : Table, u = .agg t.row := by
  obtain ⟨vs, rfl, h⟩ := argShape_agg (T := T) (t := 29) rfl rfl hs
  obtain ⟨t, rfl⟩ := wf_table h
  exact ⟨t, rfl⟩
theorem arg_coll {n : Nat} {u : V} (hs : argShape T (n + 9) 53 u) : ∃ c : Coll, u = .agg c.row := by
  obtain ⟨vs, rfl, h⟩ := argShape_agg (T := T) (t := 53) rfl rfl hs
  obtain ⟨a, b, rfl, ha, c, d, rfl, hc, e, f, rfl, he, rfl⟩ := shape_st (T := T) (t := 53) rfl h
  obtain ⟨x, rfl, _⟩ := shape_int (T := T) (t := 3) rfl ha
  obtain ⟨y, rfl, _⟩ := shape_int (T := T) (t := 3) rfl hc
  obtain ⟨q, rfl, _, hq⟩ := shape_sl (T := T) (t := 51) rfl he
  obtain ⟨l, rfl⟩ := wf_items hq
  exact ⟨⟨x, y, l⟩, rfl⟩
end Go.Sx.Sp
namespace Go.Sx.Sp
open Go Go.Sx Go.Proofs
attribute [local irreducible] GoodW
theorem itemRows_set {l : List Item} {i : Nat} (h : i < l.length) (y : Item) : (itemRows l).set i y.row = itemRows (l.set i y) := by
  unfold itemRows
  rw [List.map_set]
set_option maxHeartbeats 16000000 in
theorem acts_law (l : List Int) (raw : Coll) (x : Table) (n what at_ by_ : Int) : Spec Tryd.prog 9 [.sl (intRows .i64 l) false, .agg raw.row, .agg x.row, .int .i64 n, .int .i64 what, .int .i64 at_, .int .i64 by_] [] (.bool true) [] := by
  have hl := intRows_len .i64 l
  have hrl := itemRows_len raw.items
  have hxl := colRows_len x.cols
  have spL := light_spec l
  have spA := awake_spec
  refine Spec.body env Tryd.func9 rfl (by kernel_rfl) (Nat.le_of_ble_eq_true (by kernel_rfl)) (keysSub rfl) fun Γ hN hK => ?_; have hML : maxLen = 9223372036854775807 := by unfold maxLen; rfl
  by_cases hll : l.length ≤ 500
  · rw [decide_eq_true hll] at spL
    repeat (first | refine gA ?_ | refine gB ?_ | refine gC rfl ?_ | refine gD rfl ?_ | ((first | refine gE env hN (by kernel_rfl) ?_ | refine gF ?_ | refine gG ?_ | refine gH fun hlen => ?_ | refine gI (by kernel_rfl) ?_ | refine gN rfl ?_ | refine gN (by omega) ?_ | refine gJ rfl ?_ | refine gK (by omega) ?_ | refine gL (by omega) ?_ | refine gK rfl ?_ | refine gO ?_); conv => whnf))
    (refine ⟨_, _, _, callG [] [] [] rfl rfl rfl (by kernel_rfl) (spL) (by repeat' (first | exact trivial | exact Lent.refl _ | exact Lent.norm _ | apply And.intro)) rfl ⟨rfl, rfl, rfl, rfl, rfl, trivial, rfl, rfl⟩, ?_⟩; conv => whnf)
    repeat (first | refine gA ?_ | refine gB ?_ | refine gC rfl ?_ | refine gD rfl ?_ | ((first | refine gE env hN (by kernel_rfl) ?_ | refine gF ?_ | refine gG ?_ | refine gH fun hlen => ?_ | refine gI (by kernel_rfl) ?_ | refine gN rfl ?_ | refine gN (by omega) ?_ | refine gJ rfl ?_ | refine gK (by omega) ?_ | refine gL (by omega) ?_ | refine gK rfl ?_ | refine gO ?_); conv => whnf))
    refine boolRes_split (fun hb => ?_) (fun hb => ?_) <;> conv => whnf
    · repeat (first | refine gA ?_ | refine gB ?_ | refine gC rfl ?_ | refine gD rfl ?_ | ((first | refine gE env hN (by kernel_rfl) ?_ | refine gF ?_ | refine gG ?_ | refine gH fun hlen => ?_ | refine gI (by kernel_rfl) ?_ | refine gN rfl ?_ | refine gN (by omega) ?_ | refine gJ rfl ?_ | refine gK (by omega) ?_ | refine gL (by omega) ?_ | refine gK rfl ?_ | refine gO ?_); conv => whnf))
      (refine ⟨_, _, _, callG [] [] [] rfl rfl rfl (by kernel_rfl) (spA) (by repeat' (first | exact trivial | exact Lent.refl _ | exact Lent.norm _ | apply And.intro)) rfl ⟨rfl, rfl, rfl, rfl, rfl, trivial, rfl, rfl⟩, ?_⟩; conv => whnf)
      repeat (first | refine gA ?_ | refine gB ?_ | refine gC rfl ?_ | refine gD rfl ?_ | ((first | refine gE env hN (by kernel_rfl) ?_ | refine gF ?_ | refine gG ?_ | refine gH fun hlen => ?_ | refine gI (by kernel_rfl) ?_ | refine gN rfl ?_ | refine gN (by omega) ?_ | refine gJ rfl ?_ | refine gK (by omega) ?_ | refine gL (by omega) ?_ | refine gK rfl ?_ | refine gO ?_ | refine gM ?_); conv => whnf))
      exact ret0 rfl rfl rfl
    repeat (first | refine gA ?_ | refine gB ?_ | refine gC rfl ?_ | refine gD rfl ?_ | ((first | refine gE env hN (by kernel_rfl) ?_ | refine gF ?_ | refine gG ?_ | refine gH fun hlen => ?_ | refine gI (by kernel_rfl) ?_ | refine gN rfl ?_ | refine gN (by omega) ?_ | refine gJ rfl ?_ | refine gK (by omega) ?_ | refine gL (by omega) ?_ | refine gK rfl ?_ | refine gO ?_); conv => whnf))
    refine boolRes_split (fun hb => ?_) (fun hb => ?_) <;> conv => whnf
    · repeat (first | refine gA ?_ | refine gB ?_ | refine gC rfl ?_ | refine gD rfl ?_ | ((first | refine gE env hN (by kernel_rfl) ?_ | refine gF ?_ | refine gG ?_ | refine gH fun hlen => ?_ | refine gI (by kernel_rfl) ?_ | refine gN rfl ?_ | refine gN (by omega) ?_ | refine gJ rfl ?_ | refine gK (by omega) ?_ | refine gL (by omega) ?_ | refine gK rfl ?_ | refine gO ?_); conv => whnf))
      (refine ⟨_, _, _, callG [] [] [] rfl rfl rfl (by kernel_rfl) (spA) (by repeat' (first | exact trivial | exact Lent.refl _ | exact Lent.norm _ | apply And.intro)) rfl ⟨rfl, rfl, rfl, rfl, rfl, trivial, rfl, rfl⟩, ?_⟩; conv => whnf)
      repeat (first | refine gA ?_ | refine gB ?_ | refine gC rfl ?_ | refine gD rfl ?_ | ((first | refine gE env hN (by kernel_rfl) ?_ | refine gF ?_ | refine gG ?_ | refine gH fun hlen => ?_ | refine gI (by kernel_rfl) ?_ | refine gN rfl ?_ | refine gN (by omega) ?_ | refine gJ rfl ?_ | refine gK (by omega) ?_ | refine gL (by omega) ?_ | refine gK rfl ?_ | refine gO ?_ | refine gM ?_); conv => whnf))
      exact ret0 rfl rfl rfl
    repeat (first | refine gA ?_ | refine gB ?_ | refine gC rfl ?_ | refine gD rfl ?_ | ((first | refine gE env hN (by kernel_rfl) ?_ | refine gF ?_ | refine gG ?_ | refine gH fun hlen => ?_ | refine gI (by kernel_rfl) ?_ | refine gN rfl ?_ | refine gN (by omega) ?_ | refine gJ rfl ?_ | refine gK (by omega) ?_ | refine gL (by omega) ?_ | refine gK rfl ?_ | refine gO ?_); conv => whnf))
    refine W.loopG (fun m st => ∃ k : Nat, k ≤ raw.items.length ∧ m = raw.items.length - k ∧ st = ⟨[(0, .sl (intRows .i64 l) false), (3, .int .i64 n), (4, .int .i64 what), (5, .int .i64 at_), (6, .int .i64 by_), (8, .bp 8 0), (9, .bp 9 0), (56, .sl (itemRows raw.items) false), (57, .int .i64 (itemRows raw.items).length), (58, .int .i64 k)], [(8, [.rows 3 [raw.row] none]), (9, [.rows 3 [x.row] none])], [8, 9]⟩)
      raw.items.length _ ⟨0, by omega, by omega, rfl⟩ ⟨[(8, 8), (9, 9)], [], [], LeG.mk' rfl rfl rfl (by repeat' (first | exact trivial | exact ⟨_, .refl _, rfl⟩ | apply And.intro)) (.cons 8 rfl rfl (.refl _) rfl (.cons 9 rfl rfl (.refl _) rfl .nil)) rfl rfl (by rw [hK]; rfl)⟩ ?_
    rintro m st ⟨k, hk, rfl, rfl⟩
    repeat (first | refine gA ?_ | refine gB ?_ | refine gC rfl ?_ | refine gD rfl ?_ | ((first | refine gE env hN (by kernel_rfl) ?_ | refine gF ?_ | refine gG ?_ | refine gH fun hlen => ?_ | refine gI (by kernel_rfl) ?_ | refine gN rfl ?_ | refine gN (by omega) ?_ | refine gJ rfl ?_ | refine gK (by omega) ?_ | refine gL (by omega) ?_ | refine gK rfl ?_ | refine gO ?_); conv => whnf))
    refine boolRes_split (fun hb => ?_) (fun hb => ?_) <;> conv => whnf
    · have hlt : k < raw.items.length := by omega
      have hget := itemRows_get hlt
      generalize raw.items[k] = y at *
      have hyl := colRows_len y.tab.cols
      repeat (first | refine gA ?_ | refine gB ?_ | refine gC rfl ?_ | refine gD rfl ?_ | ((first | refine gE env hN (by kernel_rfl) ?_ | refine gF ?_ | refine gG ?_ | refine gH fun hlen => ?_ | refine gI (by kernel_rfl) ?_ | refine gN rfl ?_ | refine gN (by omega) ?_ | refine gJ rfl ?_ | refine gK (by omega) ?_ | refine gL (by omega) ?_ | refine gK rfl ?_ | refine gO ?_); conv => whnf))
      refine rowAt_of hget ?_
      conv => whnf
      repeat (first | refine gA ?_ | refine gB ?_ | refine gC rfl ?_ | refine gD rfl ?_ | ((first | refine gE env hN (by kernel_rfl) ?_ | refine gF ?_ | refine gG ?_ | refine gH fun hlen => ?_ | refine gI (by kernel_rfl) ?_ | refine gN rfl ?_ | refine gN (by omega) ?_ | refine gJ rfl ?_ | refine gK (by omega) ?_ | refine gL (by omega) ?_ | refine gK rfl ?_ | refine gO ?_); conv => whnf))
      refine boolRes_split (fun hb => ?_) (fun hb => ?_) <;> conv => whnf
      · repeat (first | refine gA ?_ | refine gB ?_ | refine gC rfl ?_ | refine gD rfl ?_ | ((first | refine gE env hN (by kernel_rfl) ?_ | refine gF ?_ | refine gG ?_ | refine gH fun hlen => ?_ | refine gI (by kernel_rfl) ?_ | refine gN rfl ?_ | refine gN (by omega) ?_ | refine gJ rfl ?_ | refine gK (by omega) ?_ | refine gL (by omega) ?_ | refine gK rfl ?_ | refine gO ?_); conv => whnf))
        (refine ⟨_, _, _, callG [] [] [] rfl rfl rfl (by kernel_rfl) (spA) (by repeat' (first | exact trivial | exact Lent.refl _ | exact Lent.norm _ | apply And.intro)) rfl ⟨rfl, rfl, rfl, rfl, rfl, trivial, rfl, rfl⟩, ?_⟩; conv => whnf)
        repeat (first | refine gA ?_ | refine gB ?_ | refine gC rfl ?_ | refine gD rfl ?_ | ((first | refine gE env hN (by kernel_rfl) ?_ | refine gF ?_ | refine gG ?_ | refine gH fun hlen => ?_ | refine gI (by kernel_rfl) ?_ | refine gN rfl ?_ | refine gN (by omega) ?_ | refine gJ rfl ?_ | refine gK (by omega) ?_ | refine gL (by omega) ?_ | refine gK rfl ?_ | refine gO ?_ | refine gM ?_); conv => whnf))
        exact ret0 rfl rfl rfl
      · repeat (first | refine gA ?_ | refine gB ?_ | refine gC rfl ?_ | refine gD rfl ?_ | ((first | refine gE env hN (by kernel_rfl) ?_ | refine gF ?_ | refine gG ?_ | refine gH fun hlen => ?_ | refine gI (by kernel_rfl) ?_ | refine gN rfl ?_ | refine gN (by omega) ?_ | refine gJ rfl ?_ | refine gK (by omega) ?_ | refine gL (by omega) ?_ | refine gK rfl ?_ | refine gO ?_); conv => whnf))
        exact ⟨_, _, by omega, ⟨k + 1, by omega, rfl, rfl⟩, ⟨[(8, 8), (9, 9)], [], [], LeG.mk' rfl rfl rfl (by repeat' (first | exact trivial | exact ⟨_, .refl _, rfl⟩ | apply And.intro)) (.cons 8 rfl rfl (.refl _) rfl (.cons 9 rfl rfl (.refl _) rfl .nil)) rfl rfl (by rw [hK]; rfl)⟩⟩
    · have hci : Inv 7 (collF l 7 0).1 ∧ (collF l 7 0).2 ≤ l.length := collF_inv (l := l) (p := 0) (most := 7) (by omega) (by omega)
      obtain ⟨hinv, hq⟩ := hci
      have spC := collection_own l 7 0 (by omega) (by omega)
      generalize (collF l 7 0).1 = c at *
      generalize (collF l 7 0).2 = q at *
      have hver := hinv.ver
      have hlen := hinv.len
      have hold := hinv.old
      obtain ⟨hc0, _, _⟩ := (collB_iff c).1 hinv.ok
      have sp3 := next_spec l q 3 (by omega) hq
      have hq1 := nextP_le hq
      have hq2 := nextP_le hq1
      repeat (first | refine gA ?_ | refine gB ?_ | refine gC rfl ?_ | refine gD rfl ?_ | ((first | refine gE env hN (by kernel_rfl) ?_ | refine gF ?_ | refine gG ?_ | refine gH fun hlen => ?_ | refine gI (by kernel_rfl) ?_ | refine gN rfl ?_ | refine gN (by omega) ?_ | refine gJ rfl ?_ | refine gK (by omega) ?_ | refine gL (by omega) ?_ | refine gK rfl ?_ | refine gO ?_); conv => whnf))
      (refine ⟨_, _, _, callG [] [(5, 70)] [] rfl rfl rfl (by kernel_rfl) (roll_spec l) (by repeat' (first | exact trivial | exact Lent.refl _ | exact Lent.norm _ | apply And.intro)) rfl ⟨rfl, rfl, rfl, rfl, rfl, by repeat' (first | exact trivial | rfl | apply And.intro), rfl, rfl⟩, ?_⟩; conv => whnf)
      repeat (first | refine gA ?_ | refine gB ?_ | refine gC rfl ?_ | refine gD rfl ?_ | ((first | refine gE env hN (by kernel_rfl) ?_ | refine gF ?_ | refine gG ?_ | refine gH fun hlen => ?_ | refine gI (by kernel_rfl) ?_ | refine gN rfl ?_ | refine gN (by omega) ?_ | refine gJ rfl ?_ | refine gK (by omega) ?_ | refine gL (by omega) ?_ | refine gK rfl ?_ | refine gO ?_); conv => whnf))
      (refine ⟨_, _, _, callG [(0, 70)] [(90, 93)] [] rfl rfl rfl (by kernel_rfl) (spC) (by repeat' (first | exact trivial | exact Lent.refl _ | exact Lent.norm _ | apply And.intro)) rfl ⟨rfl, rfl, rfl, rfl, rfl, by repeat' (first | exact trivial | rfl | apply And.intro), rfl, rfl⟩, ?_⟩; conv => whnf)
      repeat ((first | refine gI (by kernel_rfl) ?_ | refine gH fun hlen => ?_ | refine gN rfl ?_ | refine gN (by omega) ?_ | refine gJ rfl ?_ | refine gK (by omega) ?_ | refine gL (by omega) ?_ | refine gK rfl ?_ | refine gO ?_); conv => whnf)
      refine W.cut (fun s => ∃ (c : Coll) (q : Nat), collB c = true ∧ c.items.length ≤ 7 ∧ q ≤ l.length ∧ c.version ≤ 7 ∧ 0 ≤ c.version ∧ s = ⟨[(3, .int .i64 n), (4, .int .i64 what), (5, .int .i64 at_), (6, .int .i64 by_), (8, .bp 8 0), (9, .bp 9 0), (17, .bp 70 0), (18, .bp 18 0)], [(8, [.rows 3 [raw.row] none]), (9, [.rows 3 [x.row] none]), (70, [diceB l q]), (18, [.rows 3 [[.int .i64 (c).version, .int .i64 (c).oldest, .osl 93 0 0 (itemRows (c).items).length (itemRows (c).items).length]] none]), (93, [.rows 5 (itemRows (c).items) (some [])])], [8, 9, 70, 18, 93]⟩) ?_ ?_
      · refine W.leG (mp := [(8, 8), (9, 9), (70, 70), (18, 18), (93, 93)]) (bo := []) (st' := ⟨[(3, .int .i64 n), (4, .int .i64 what), (5, .int .i64 at_), (6, .int .i64 by_), (8, .bp 8 0), (9, .bp 9 0), (17, .bp 70 0), (18, .bp 18 0)], [(8, [.rows 3 [raw.row] none]), (9, [.rows 3 [x.row] none]), (70, [diceB l q]), (18, [.rows 3 [[.int .i64 (c).version, .int .i64 (c).oldest, .osl 93 0 0 (itemRows (c).items).length (itemRows (c).items).length]] none]), (93, [.rows 5 (itemRows (c).items) (some [])])], [8, 9, 70, 18, 93]⟩) (LeG.mk' rfl rfl rfl (by repeat' (first | exact trivial | exact ⟨_, .refl _, rfl⟩ | apply And.intro)) (.cons 8 rfl rfl (.refl _) rfl (.cons 9 rfl rfl (.refl _) rfl (.cons 70 rfl rfl (.refl _) rfl (.cons 18 rfl rfl (.refl _) rfl (.cons 93 rfl rfl (.refl _) rfl .nil))))) rfl rfl (by rw [hK]; rfl)) ?_
        repeat (first | refine gA ?_ | refine gB ?_ | refine gC rfl ?_ | refine gD rfl ?_ | ((first | refine gE env hN (by kernel_rfl) ?_ | refine gF ?_ | refine gG ?_ | refine gH fun hlen => ?_ | refine gI (by kernel_rfl) ?_ | refine gN rfl ?_ | refine gN (by omega) ?_ | refine gJ rfl ?_ | refine gK (by omega) ?_ | refine gL (by omega) ?_ | refine gK rfl ?_ | refine gO ?_); conv => whnf))
        (refine ⟨_, _, _, callG [(0, 70)] [] [] rfl rfl rfl (by kernel_rfl) (sp3) (by repeat' (first | exact trivial | exact Lent.refl _ | exact Lent.norm _ | exact Lent.whole rfl rfl (by first | rfl | exact List.length_append.symm | exact hlenR | simp) rfl (by first | exact .inl rfl | exact .inr rfl) | apply And.intro)) rfl ⟨rfl, rfl, rfl, rfl, rfl, by repeat' (first | exact trivial | rfl | apply And.intro), rfl, rfl⟩, ?_⟩; conv => whnf)
        repeat (first | refine gA ?_ | refine gB ?_ | refine gC rfl ?_ | refine gD rfl ?_ | ((first | refine gE env hN (by kernel_rfl) ?_ | refine gF ?_ | refine gG ?_ | refine gH fun hlen => ?_ | refine gI (by kernel_rfl) ?_ | refine gN rfl ?_ | refine gN (by omega) ?_ | refine gJ rfl ?_ | refine gK (by omega) ?_ | refine gL (by omega) ?_ | refine gK rfl ?_ | refine gO ?_); conv => whnf))
        refine boolRes_split (fun hb => ?_) (fun hb => ?_) <;> conv => whnf
        · have hr4 := nextV_range l (nextP l q) (n := c.version + 1) (by omega)
          have sp4 := next_spec l (nextP l q) (c.version + 1) (by omega) hq1
          generalize nextV l (nextP l q) (c.version + 1) = o at *
          obtain ⟨v1, v2⟩ := vac_ok (o := o) hinv.ok (by omega)
          have sp5 := vacuum41_own c o (by rw [v1])
          have hkl := keepM_len o c.items
          rw [v1] at sp5
          dsimp only at sp5
          refine W.leG (mp := [(8, 8), (9, 9), (70, 70), (18, 18)]) (bo := [93]) (st' := ⟨[(3, .int .i64 n), (4, .int .i64 what), (5, .int .i64 at_), (6, .int .i64 by_), (8, .bp 8 0), (9, .bp 9 0), (17, .bp 70 0), (18, .bp 18 0), (75, .bool true)], [(8, [.rows 3 [raw.row] none]), (9, [.rows 3 [x.row] none]), (70, [diceB l (nextP l q)]), (18, [.rows 3 [c.row] none])], [8, 9, 70, 18]⟩)
            (LeG.mk' rfl rfl rfl (by repeat' (first | exact trivial | exact ⟨_, .refl _, rfl⟩ | apply And.intro)) (.cons 8 rfl rfl (.refl _) rfl (.cons 9 rfl rfl (.refl _) rfl (.cons 70 rfl rfl (.refl _) rfl (.cons 18 (b1 := .rows 3 [c.row] none) rfl rfl (.rows _ _ _ (by repeat' (first | exact trivial | exact ⟨Lent.refl _, rfl⟩ | exact ⟨Lent.norm _, rfl⟩ | exact ⟨Lent.whole rfl rfl (by first | rfl | exact List.length_append.symm | exact hlenR | simp) rfl (by first | exact .inl rfl | exact .inr rfl), rfl⟩ | apply And.intro))) rfl .nil)))) rfl rfl (by rw [hK]; rfl)) ?_
          repeat (first | refine gA ?_ | refine gB ?_ | refine gC rfl ?_ | refine gD rfl ?_ | ((first | refine gE env hN (by kernel_rfl) ?_ | refine gF ?_ | refine gG ?_ | refine gH fun hlen => ?_ | refine gI (by kernel_rfl) ?_ | refine gN rfl ?_ | refine gN (by omega) ?_ | refine gJ rfl ?_ | refine gK (by omega) ?_ | refine gL (by omega) ?_ | refine gK rfl ?_ | refine gO ?_); conv => whnf))
          (refine ⟨_, _, _, callG [(0, 70)] [] [] rfl rfl rfl (by kernel_rfl) (sp4) (by repeat' (first | exact trivial | exact Lent.refl _ | exact Lent.norm _ | exact Lent.whole rfl rfl (by first | rfl | exact List.length_append.symm | exact hlenR | simp) rfl (by first | exact .inl rfl | exact .inr rfl) | apply And.intro)) rfl ⟨rfl, rfl, rfl, rfl, rfl, by repeat' (first | exact trivial | rfl | apply And.intro), rfl, rfl⟩, ?_⟩; conv => whnf)
          repeat (first | refine gA ?_ | refine gB ?_ | refine gC rfl ?_ | refine gD rfl ?_ | ((first | refine gE env hN (by kernel_rfl) ?_ | refine gF ?_ | refine gG ?_ | refine gH fun hlen => ?_ | refine gI (by kernel_rfl) ?_ | refine gN rfl ?_ | refine gN (by omega) ?_ | refine gJ rfl ?_ | refine gK (by omega) ?_ | refine gL (by omega) ?_ | refine gK rfl ?_ | refine gO ?_); conv => whnf))
          (refine ⟨_, _, _, callG [] [(51, 94)] [] rfl rfl rfl (by kernel_rfl) (sp5) (by repeat' (first | exact trivial | exact Lent.refl _ | exact Lent.norm _ | apply And.intro)) rfl ⟨rfl, rfl, rfl, rfl, rfl, by repeat' (first | exact trivial | rfl | apply And.intro), rfl, rfl⟩, ?_⟩; conv => whnf)
          repeat (first | refine gA ?_ | refine gB ?_ | refine gC rfl ?_ | refine gD rfl ?_ | ((first | refine gE env hN (by kernel_rfl) ?_ | refine gF ?_ | refine gG ?_ | refine gH fun hlen => ?_ | refine gI (by kernel_rfl) ?_ | refine gN rfl ?_ | refine gN (by omega) ?_ | refine gJ rfl ?_ | refine gK (by omega) ?_ | refine gL (by omega) ?_ | refine gK rfl ?_ | refine gO ?_); conv => whnf))
          exact ⟨_, ⟨⟨c.version, o, keepM o c.items⟩, _, v2, by show (keepM o c.items).length ≤ 7; omega, hq2, by show c.version ≤ 7; omega, by show 0 ≤ c.version; omega, rfl⟩, .le (mp := [(8, 8), (9, 9), (70, 70), (18, 18), (94, 93)]) (bo := []) (LeG.mk' rfl rfl rfl (by repeat' (first | exact trivial | exact ⟨_, .refl _, rfl⟩ | apply And.intro)) (.cons 8 rfl rfl (.refl _) rfl (.cons 9 rfl rfl (.refl _) rfl (.cons 70 rfl rfl (.refl _) rfl (.cons 18 rfl rfl (.refl _) rfl (.cons 94 rfl rfl (.refl _) rfl .nil))))) rfl rfl (by rw [hK]; rfl))⟩
        · repeat (first | refine gA ?_ | refine gB ?_ | refine gC rfl ?_ | refine gD rfl ?_ | ((first | refine gE env hN (by kernel_rfl) ?_ | refine gF ?_ | refine gG ?_ | refine gH fun hlen => ?_ | refine gI (by kernel_rfl) ?_ | refine gN rfl ?_ | refine gN (by omega) ?_ | refine gJ rfl ?_ | refine gK (by omega) ?_ | refine gL (by omega) ?_ | refine gK rfl ?_ | refine gO ?_); conv => whnf))
          exact ⟨_, ⟨c, _, hinv.ok, by omega, hq1, by omega, by omega, rfl⟩, .le (mp := [(8, 8), (9, 9), (70, 70), (18, 18), (93, 93)]) (bo := []) (LeG.mk' rfl rfl rfl (by repeat' (first | exact trivial | exact ⟨_, .refl _, rfl⟩ | apply And.intro)) (.cons 8 rfl rfl (.refl _) rfl (.cons 9 rfl rfl (.refl _) rfl (.cons 70 rfl rfl (.refl _) rfl (.cons 18 rfl rfl (.refl _) rfl (.cons 93 rfl rfl (.refl _) rfl .nil))))) rfl rfl (by rw [hK]; rfl))⟩
      rintro s ⟨c, q, hcb, hlen, hq, hver, hver0, rfl⟩
      have hil := itemRows_len c.items
      refine W.cut (fun s => ∃ (c : Coll) (q : Nat), c.items.length ≤ 12 ∧ q ≤ l.length ∧ s = ⟨[(3, .int .i64 n), (9, .bp 9 0), (17, .bp 70 0), (18, .bp 18 0)], [(9, [.rows 3 [x.row] none]), (70, [diceB l q]), (18, [.rows 3 [(c).row] none])], [9, 70, 18]⟩) ?_ ?_
      · have spW := mod_spec what 9 (by omega)
        have hw := modK_range (n := what) (m := 9)
        generalize modK what 9 = w at *
        repeat (first | refine gA ?_ | refine gB ?_ | refine gC rfl ?_ | refine gD rfl ?_ | ((first | refine gE env hN (by kernel_rfl) ?_ | refine gF ?_ | refine gG ?_ | refine gH fun hlen => ?_ | refine gI (by kernel_rfl) ?_ | refine gN rfl ?_ | refine gN (by omega) ?_ | refine gJ rfl ?_ | refine gK (by omega) ?_ | refine gL (by omega) ?_ | refine gK rfl ?_ | refine gO ?_); conv => whnf))
        (refine ⟨_, _, _, callG [] [] [] rfl rfl rfl (by kernel_rfl) (spW) (by repeat' (first | exact trivial | exact Lent.refl _ | exact Lent.norm _ | apply And.intro)) rfl ⟨rfl, rfl, rfl, rfl, rfl, trivial, rfl, rfl⟩, ?_⟩; conv => whnf)
        repeat (first | refine gA ?_ | refine gB ?_ | refine gC rfl ?_ | refine gD rfl ?_ | ((first | refine gE env hN (by kernel_rfl) ?_ | refine gF ?_ | refine gG ?_ | refine gH fun hlen => ?_ | refine gI (by kernel_rfl) ?_ | refine gN rfl ?_ | refine gN (by omega) ?_ | refine gJ rfl ?_ | refine gK (by omega) ?_ | refine gL (by omega) ?_ | refine gK rfl ?_ | refine gO ?_); conv => whnf))
        refine boolRes_split (fun hb => ?_) (fun hb => ?_) <;> conv => whnf
        · repeat (first | refine gA ?_ | refine gB ?_ | refine gC rfl ?_ | refine gD rfl ?_ | ((first | refine gE env hN (by kernel_rfl) ?_ | refine gF ?_ | refine gG ?_ | refine gH fun hlen => ?_ | refine gI (by kernel_rfl) ?_ | refine gN rfl ?_ | refine gN (by omega) ?_ | refine gJ rfl ?_ | refine gK (by omega) ?_ | refine gL (by omega) ?_ | refine gK rfl ?_ | refine gO ?_); conv => whnf))
          exact ⟨_, ⟨raw, q, by omega, hq, rfl⟩, .le (mp := [(9, 9), (70, 70), (18, 18)]) (bo := []) (LeG.mk' rfl rfl rfl (by repeat' (first | exact trivial | exact ⟨_, .refl _, rfl⟩ | apply And.intro)) (.cons 9 rfl rfl (.refl _) rfl (.cons 70 rfl rfl (.refl _) rfl (.cons 18 rfl rfl (.refl _) rfl .nil))) rfl rfl (by rw [hK]; rfl))⟩
        repeat (first | refine gA ?_ | refine gB ?_ | refine gC rfl ?_ | refine gD rfl ?_ | ((first | refine gE env hN (by kernel_rfl) ?_ | refine gF ?_ | refine gG ?_ | refine gH fun hlen => ?_ | refine gI (by kernel_rfl) ?_ | refine gN rfl ?_ | refine gN (by omega) ?_ | refine gJ rfl ?_ | refine gK (by omega) ?_ | refine gL (by omega) ?_ | refine gK rfl ?_ | refine gO ?_); conv => whnf))
        refine boolRes_split (fun hb => ?_) (fun hb => ?_) <;> conv => whnf
        · repeat (first | refine gA ?_ | refine gB ?_ | refine gC rfl ?_ | refine gD rfl ?_ | ((first | refine gE env hN (by kernel_rfl) ?_ | refine gF ?_ | refine gG ?_ | refine gH fun hlen => ?_ | refine gI (by kernel_rfl) ?_ | refine gN rfl ?_ | refine gN (by omega) ?_ | refine gJ rfl ?_ | refine gK (by omega) ?_ | refine gL (by omega) ?_ | refine gK rfl ?_ | refine gO ?_); conv => whnf))
          refine boolRes_split (fun hb => ?_) (fun hb => ?_) <;> conv => whnf
          · have hpos : 0 < c.items.length := by omega
            have spA2 := mod_spec at_ ((itemRows c.items).length : Nat) (by omega)
            have hr2 := modK_range (n := at_) (m := ((itemRows c.items).length : Nat))
            have spB := mod_spec by_ 9 (by omega)
            obtain ⟨i, hi⟩ : ∃ i : Nat, modK at_ ((itemRows c.items).length : Nat) = i := ⟨(modK at_ ((itemRows c.items).length : Nat)).toNat, by omega⟩
            rw [hi] at spA2 hr2
            have hiL : i < c.items.length := by have := hr2.2 (by omega); omega
            have hgi := itemRows_get hiL
            generalize modK by_ 9 = b at *
            have hset := itemRows_set hiL ⟨c.items[i].tab, b, c.items[i].until_⟩
            repeat (first | refine gA ?_ | refine gB ?_ | refine gC rfl ?_ | refine gD rfl ?_ | ((first | refine gE env hN (by kernel_rfl) ?_ | refine gF ?_ | refine gG ?_ | refine gH fun hlen => ?_ | refine gI (by kernel_rfl) ?_ | refine gN rfl ?_ | refine gN (by omega) ?_ | refine gJ rfl ?_ | refine gK (by omega) ?_ | refine gL (by omega) ?_ | refine gK rfl ?_ | refine gO ?_); conv => whnf))
            (refine ⟨_, _, _, callG [] [] [] rfl rfl rfl (by kernel_rfl) (spA2) (by repeat' (first | exact trivial | exact Lent.refl _ | exact Lent.norm _ | apply And.intro)) rfl ⟨rfl, rfl, rfl, rfl, rfl, trivial, rfl, rfl⟩, ?_⟩; conv => whnf)
            repeat (first | refine gA ?_ | refine gB ?_ | refine gC rfl ?_ | refine gD rfl ?_ | ((first | refine gE env hN (by kernel_rfl) ?_ | refine gF ?_ | refine gG ?_ | refine gH fun hlen => ?_ | refine gI (by kernel_rfl) ?_ | refine gN rfl ?_ | refine gN (by omega) ?_ | refine gJ rfl ?_ | refine gK (by omega) ?_ | refine gL (by omega) ?_ | refine gK rfl ?_ | refine gO ?_); conv => whnf))
            (refine ⟨_, _, _, callG [] [] [] rfl rfl rfl (by kernel_rfl) (spB) (by repeat' (first | exact trivial | exact Lent.refl _ | exact Lent.norm _ | apply And.intro)) rfl ⟨rfl, rfl, rfl, rfl, rfl, trivial, rfl, rfl⟩, ?_⟩; conv => whnf)
            repeat (first | refine gA ?_ | refine gB ?_ | refine gC rfl ?_ | refine gD rfl ?_ | ((first | refine gE env hN (by kernel_rfl) ?_ | refine gF ?_ | refine gG ?_ | refine gH fun hlen => ?_ | refine gI (by kernel_rfl) ?_ | refine gN rfl ?_ | refine gN (by omega) ?_ | refine gJ rfl ?_ | refine gK (by omega) ?_ | refine gL (by omega) ?_ | refine gK rfl ?_ | refine gO ?_); conv => whnf))
            refine rowAt_of (by simpa using hgi) ?_
            conv => whnf
            repeat (first | refine gA ?_ | refine gB ?_ | refine gC rfl ?_ | refine gD rfl ?_ | ((first | refine gE env hN (by kernel_rfl) ?_ | refine gF ?_ | refine gG ?_ | refine gH fun hlen => ?_ | refine gI (by kernel_rfl) ?_ | refine gN rfl ?_ | refine gN (by omega) ?_ | refine gJ rfl ?_ | refine gK (by omega) ?_ | refine gL (by omega) ?_ | refine gK rfl ?_ | refine gO ?_); conv => whnf))
            exact ⟨_, ⟨⟨c.version, c.oldest, c.items.set i ⟨c.items[i].tab, b, c.items[i].until_⟩⟩, q, by simp; omega, hq, rfl⟩, .le (mp := [(9, 9), (70, 70), (18, 18)]) (bo := [93]) (LeG.mk' rfl rfl rfl (by repeat' (first | exact trivial | exact ⟨_, .refl _, rfl⟩ | apply And.intro)) (.cons 9 rfl rfl (.refl _) rfl (.cons 70 rfl rfl (.refl _) rfl (.cons 18 (b1 := .rows 3 [[.int .i64 c.version, .int .i64 c.oldest, .sl ((itemRows c.items).set (0 + (i : Int).toNat) (Item.row ⟨c.items[i].tab, b, c.items[i].until_⟩)) false]] none) rfl rfl (.rows _ _ _ (by repeat' (first | exact trivial | exact ⟨Lent.refl _, rfl⟩ | exact ⟨Lent.norm _, rfl⟩ | exact ⟨Lent.whole rfl rfl (by first | rfl | exact List.length_append.symm | exact hlenR | simp) rfl (by first | exact .inl rfl | exact .inr rfl), rfl⟩ | apply And.intro))) (by rw [show 0 + (i : Int).toNat = i by omega, hset]; rfl) .nil))) rfl rfl (by rw [hK]; rfl))⟩
          · repeat (first | refine gA ?_ | refine gB ?_ | refine gC rfl ?_ | refine gD rfl ?_ | ((first | refine gE env hN (by kernel_rfl) ?_ | refine gF ?_ | refine gG ?_ | refine gH fun hlen => ?_ | refine gI (by kernel_rfl) ?_ | refine gN rfl ?_ | refine gN (by omega) ?_ | refine gJ rfl ?_ | refine gK (by omega) ?_ | refine gL (by omega) ?_ | refine gK rfl ?_ | refine gO ?_); conv => whnf))
            exact ⟨_, ⟨c, q, by first | omega | (show c.items.length ≤ 12; omega), hq, rfl⟩, .le (mp := [(9, 9), (70, 70), (18, 18)]) (bo := [93]) (LeG.mk' rfl rfl rfl (by repeat' (first | exact trivial | exact ⟨_, .refl _, rfl⟩ | apply And.intro)) (.cons 9 rfl rfl (.refl _) rfl (.cons 70 rfl rfl (.refl _) rfl (.cons 18 (b1 := .rows 3 [(c).row] none) rfl rfl (.rows _ _ _ (by repeat' (first | exact trivial | exact ⟨Lent.refl _, rfl⟩ | exact ⟨Lent.norm _, rfl⟩ | exact ⟨Lent.whole rfl rfl (by first | rfl | exact List.length_append.symm | exact hlenR | simp) rfl (by first | exact .inl rfl | exact .inr rfl), rfl⟩ | apply And.intro))) rfl .nil))) rfl rfl (by rw [hK]; rfl))⟩
        repeat (first | refine gA ?_ | refine gB ?_ | refine gC rfl ?_ | refine gD rfl ?_ | ((first | refine gE env hN (by kernel_rfl) ?_ | refine gF ?_ | refine gG ?_ | refine gH fun hlen => ?_ | refine gI (by kernel_rfl) ?_ | refine gN rfl ?_ | refine gN (by omega) ?_ | refine gJ rfl ?_ | refine gK (by omega) ?_ | refine gL (by omega) ?_ | refine gK rfl ?_ | refine gO ?_); conv => whnf))
        refine boolRes_split (fun hb => ?_) (fun hb => ?_) <;> conv => whnf
        · repeat (first | refine gA ?_ | refine gB ?_ | refine gC rfl ?_ | refine gD rfl ?_ | ((first | refine gE env hN (by kernel_rfl) ?_ | refine gF ?_ | refine gG ?_ | refine gH fun hlen => ?_ | refine gI (by kernel_rfl) ?_ | refine gN rfl ?_ | refine gN (by omega) ?_ | refine gJ rfl ?_ | refine gK (by omega) ?_ | refine gL (by omega) ?_ | refine gK rfl ?_ | refine gO ?_); conv => whnf))
          refine boolRes_split (fun hb => ?_) (fun hb => ?_) <;> conv => whnf
          · have hpos : 0 < c.items.length := by omega
            have spA2 := mod_spec at_ ((itemRows c.items).length : Nat) (by omega)
            have hr2 := modK_range (n := at_) (m := ((itemRows c.items).length : Nat))
            have spB := mod_spec by_ 9 (by omega)
            obtain ⟨i, hi⟩ : ∃ i : Nat, modK at_ ((itemRows c.items).length : Nat) = i := ⟨(modK at_ ((itemRows c.items).length : Nat)).toNat, by omega⟩
            rw [hi] at spA2 hr2
            have hiL : i < c.items.length := by have := hr2.2 (by omega); omega
            have hgi := itemRows_get hiL
            generalize modK by_ 9 = b at *
            have hset := itemRows_set hiL ⟨c.items[i].tab, c.items[i].from_, b⟩
            repeat (first | refine gA ?_ | refine gB ?_ | refine gC rfl ?_ | refine gD rfl ?_ | ((first | refine gE env hN (by kernel_rfl) ?_ | refine gF ?_ | refine gG ?_ | refine gH fun hlen => ?_ | refine gI (by kernel_rfl) ?_ | refine gN rfl ?_ | refine gN (by omega) ?_ | refine gJ rfl ?_ | refine gK (by omega) ?_ | refine gL (by omega) ?_ | refine gK rfl ?_ | refine gO ?_); conv => whnf))
            (refine ⟨_, _, _, callG [] [] [] rfl rfl rfl (by kernel_rfl) (spA2) (by repeat' (first | exact trivial | exact Lent.refl _ | exact Lent.norm _ | apply And.intro)) rfl ⟨rfl, rfl, rfl, rfl, rfl, trivial, rfl, rfl⟩, ?_⟩; conv => whnf)
            repeat (first | refine gA ?_ | refine gB ?_ | refine gC rfl ?_ | refine gD rfl ?_ | ((first | refine gE env hN (by kernel_rfl) ?_ | refine gF ?_ | refine gG ?_ | refine gH fun hlen => ?_ | refine gI (by kernel_rfl) ?_ | refine gN rfl ?_ | refine gN (by omega) ?_ | refine gJ rfl ?_ | refine gK (by omega) ?_ | refine gL (by omega) ?_ | refine gK rfl ?_ | refine gO ?_); conv => whnf))
            (refine ⟨_, _, _, callG [] [] [] rfl rfl rfl (by kernel_rfl) (spB) (by repeat' (first | exact trivial | exact Lent.refl _ | exact Lent.norm _ | apply And.intro)) rfl ⟨rfl, rfl, rfl, rfl, rfl, trivial, rfl, rfl⟩, ?_⟩; conv => whnf)
            repeat (first | refine gA ?_ | refine gB ?_ | refine gC rfl ?_ | refine gD rfl ?_ | ((first | refine gE env hN (by kernel_rfl) ?_ | refine gF ?_ | refine gG ?_ | refine gH fun hlen => ?_ | refine gI (by kernel_rfl) ?_ | refine gN rfl ?_ | refine gN (by omega) ?_ | refine gJ rfl ?_ | refine gK (by omega) ?_ | refine gL (by omega) ?_ | refine gK rfl ?_ | refine gO ?_); conv => whnf))
            refine rowAt_of (by simpa using hgi) ?_
            conv => whnf
            repeat (first | refine gA ?_ | refine gB ?_ | refine gC rfl ?_ | refine gD rfl ?_ | ((first | refine gE env hN (by kernel_rfl) ?_ | refine gF ?_ | refine gG ?_ | refine gH fun hlen => ?_ | refine gI (by kernel_rfl) ?_ | refine gN rfl ?_ | refine gN (by omega) ?_ | refine gJ rfl ?_ | refine gK (by omega) ?_ | refine gL (by omega) ?_ | refine gK rfl ?_ | refine gO ?_); conv => whnf))
            exact ⟨_, ⟨⟨c.version, c.oldest, c.items.set i ⟨c.items[i].tab, c.items[i].from_, b⟩⟩, q, by simp; omega, hq, rfl⟩, .le (mp := [(9, 9), (70, 70), (18, 18)]) (bo := [93]) (LeG.mk' rfl rfl rfl (by repeat' (first | exact trivial | exact ⟨_, .refl _, rfl⟩ | apply And.intro)) (.cons 9 rfl rfl (.refl _) rfl (.cons 70 rfl rfl (.refl _) rfl (.cons 18 (b1 := .rows 3 [[.int .i64 c.version, .int .i64 c.oldest, .sl ((itemRows c.items).set (0 + (i : Int).toNat) (Item.row ⟨c.items[i].tab, c.items[i].from_, b⟩)) false]] none) rfl rfl (.rows _ _ _ (by repeat' (first | exact trivial | exact ⟨Lent.refl _, rfl⟩ | exact ⟨Lent.norm _, rfl⟩ | exact ⟨Lent.whole rfl rfl (by first | rfl | exact List.length_append.symm | exact hlenR | simp) rfl (by first | exact .inl rfl | exact .inr rfl), rfl⟩ | apply And.intro))) (by rw [show 0 + (i : Int).toNat = i by omega, hset]; rfl) .nil))) rfl rfl (by rw [hK]; rfl))⟩
          · repeat (first | refine gA ?_ | refine gB ?_ | refine gC rfl ?_ | refine gD rfl ?_ | ((first | refine gE env hN (by kernel_rfl) ?_ | refine gF ?_ | refine gG ?_ | refine gH fun hlen => ?_ | refine gI (by kernel_rfl) ?_ | refine gN rfl ?_ | refine gN (by omega) ?_ | refine gJ rfl ?_ | refine gK (by omega) ?_ | refine gL (by omega) ?_ | refine gK rfl ?_ | refine gO ?_); conv => whnf))
            exact ⟨_, ⟨c, q, by first | omega | (show c.items.length ≤ 12; omega), hq, rfl⟩, .le (mp := [(9, 9), (70, 70), (18, 18)]) (bo := [93]) (LeG.mk' rfl rfl rfl (by repeat' (first | exact trivial | exact ⟨_, .refl _, rfl⟩ | apply And.intro)) (.cons 9 rfl rfl (.refl _) rfl (.cons 70 rfl rfl (.refl _) rfl (.cons 18 (b1 := .rows 3 [(c).row] none) rfl rfl (.rows _ _ _ (by repeat' (first | exact trivial | exact ⟨Lent.refl _, rfl⟩ | exact ⟨Lent.norm _, rfl⟩ | exact ⟨Lent.whole rfl rfl (by first | rfl | exact List.length_append.symm | exact hlenR | simp) rfl (by first | exact .inl rfl | exact .inr rfl), rfl⟩ | apply And.intro))) rfl .nil))) rfl rfl (by rw [hK]; rfl))⟩
        repeat (first | refine gA ?_ | refine gB ?_ | refine gC rfl ?_ | refine gD rfl ?_ | ((first | refine gE env hN (by kernel_rfl) ?_ | refine gF ?_ | refine gG ?_ | refine gH fun hlen => ?_ | refine gI (by kernel_rfl) ?_ | refine gN rfl ?_ | refine gN (by omega) ?_ | refine gJ rfl ?_ | refine gK (by omega) ?_ | refine gL (by omega) ?_ | refine gK rfl ?_ | refine gO ?_); conv => whnf))
        refine boolRes_split (fun hb => ?_) (fun hb => ?_) <;> conv => whnf
        · repeat (first | refine gA ?_ | refine gB ?_ | refine gC rfl ?_ | refine gD rfl ?_ | ((first | refine gE env hN (by kernel_rfl) ?_ | refine gF ?_ | refine gG ?_ | refine gH fun hlen => ?_ | refine gI (by kernel_rfl) ?_ | refine gN rfl ?_ | refine gN (by omega) ?_ | refine gJ rfl ?_ | refine gK (by omega) ?_ | refine gL (by omega) ?_ | refine gK rfl ?_ | refine gO ?_); conv => whnf))
          refine boolRes_split (fun hb => ?_) (fun hb => ?_) <;> conv => whnf
          · have hpos : 0 < c.items.length := by omega
            have spA2 := mod_spec at_ ((itemRows c.items).length : Nat) (by omega)
            have hr2 := modK_range (n := at_) (m := ((itemRows c.items).length : Nat))
            have spB := mod_spec by_ 5 (by omega)
            obtain ⟨i, hi⟩ : ∃ i : Nat, modK at_ ((itemRows c.items).length : Nat) = i := ⟨(modK at_ ((itemRows c.items).length : Nat)).toNat, by omega⟩
            rw [hi] at spA2 hr2
            have hiL : i < c.items.length := by have := hr2.2 (by omega); omega
            have hgi := itemRows_get hiL
            generalize modK by_ 5 = b at *
            have hset := itemRows_set hiL ⟨⟨b, c.items[i].tab.name, c.items[i].tab.cols⟩, c.items[i].from_, c.items[i].until_⟩
            repeat (first | refine gA ?_ | refine gB ?_ | refine gC rfl ?_ | refine gD rfl ?_ | ((first | refine gE env hN (by kernel_rfl) ?_ | refine gF ?_ | refine gG ?_ | refine gH fun hlen => ?_ | refine gI (by kernel_rfl) ?_ | refine gN rfl ?_ | refine gN (by omega) ?_ | refine gJ rfl ?_ | refine gK (by omega) ?_ | refine gL (by omega) ?_ | refine gK rfl ?_ | refine gO ?_); conv => whnf))
            (refine ⟨_, _, _, callG [] [] [] rfl rfl rfl (by kernel_rfl) (spA2) (by repeat' (first | exact trivial | exact Lent.refl _ | exact Lent.norm _ | apply And.intro)) rfl ⟨rfl, rfl, rfl, rfl, rfl, trivial, rfl, rfl⟩, ?_⟩; conv => whnf)
            repeat (first | refine gA ?_ | refine gB ?_ | refine gC rfl ?_ | refine gD rfl ?_ | ((first | refine gE env hN (by kernel_rfl) ?_ | refine gF ?_ | refine gG ?_ | refine gH fun hlen => ?_ | refine gI (by kernel_rfl) ?_ | refine gN rfl ?_ | refine gN (by omega) ?_ | refine gJ rfl ?_ | refine gK (by omega) ?_ | refine gL (by omega) ?_ | refine gK rfl ?_ | refine gO ?_); conv => whnf))
            (refine ⟨_, _, _, callG [] [] [] rfl rfl rfl (by kernel_rfl) (spB) (by repeat' (first | exact trivial | exact Lent.refl _ | exact Lent.norm _ | apply And.intro)) rfl ⟨rfl, rfl, rfl, rfl, rfl, trivial, rfl, rfl⟩, ?_⟩; conv => whnf)
            repeat (first | refine gA ?_ | refine gB ?_ | refine gC rfl ?_ | refine gD rfl ?_ | ((first | refine gE env hN (by kernel_rfl) ?_ | refine gF ?_ | refine gG ?_ | refine gH fun hlen => ?_ | refine gI (by kernel_rfl) ?_ | refine gN rfl ?_ | refine gN (by omega) ?_ | refine gJ rfl ?_ | refine gK (by omega) ?_ | refine gL (by omega) ?_ | refine gK rfl ?_ | refine gO ?_); conv => whnf))
            refine rowAt_of (by simpa using hgi) ?_
            conv => whnf
            repeat (first | refine gA ?_ | refine gB ?_ | refine gC rfl ?_ | refine gD rfl ?_ | ((first | refine gE env hN (by kernel_rfl) ?_ | refine gF ?_ | refine gG ?_ | refine gH fun hlen => ?_ | refine gI (by kernel_rfl) ?_ | refine gN rfl ?_ | refine gN (by omega) ?_ | refine gJ rfl ?_ | refine gK (by omega) ?_ | refine gL (by omega) ?_ | refine gK rfl ?_ | refine gO ?_); conv => whnf))
            exact ⟨_, ⟨⟨c.version, c.oldest, c.items.set i ⟨⟨b, c.items[i].tab.name, c.items[i].tab.cols⟩, c.items[i].from_, c.items[i].until_⟩⟩, q, by simp; omega, hq, rfl⟩, .le (mp := [(9, 9), (70, 70), (18, 18)]) (bo := [93]) (LeG.mk' rfl rfl rfl (by repeat' (first | exact trivial | exact ⟨_, .refl _, rfl⟩ | apply And.intro)) (.cons 9 rfl rfl (.refl _) rfl (.cons 70 rfl rfl (.refl _) rfl (.cons 18 (b1 := .rows 3 [[.int .i64 c.version, .int .i64 c.oldest, .sl ((itemRows c.items).set (0 + (i : Int).toNat) (Item.row ⟨⟨b, c.items[i].tab.name, c.items[i].tab.cols⟩, c.items[i].from_, c.items[i].until_⟩)) false]] none) rfl rfl (.rows _ _ _ (by repeat' (first | exact trivial | exact ⟨Lent.refl _, rfl⟩ | exact ⟨Lent.norm _, rfl⟩ | exact ⟨Lent.whole rfl rfl (by first | rfl | exact List.length_append.symm | exact hlenR | simp) rfl (by first | exact .inl rfl | exact .inr rfl), rfl⟩ | apply And.intro))) (by rw [show 0 + (i : Int).toNat = i by omega, hset]; rfl) .nil))) rfl rfl (by rw [hK]; rfl))⟩
          · repeat (first | refine gA ?_ | refine gB ?_ | refine gC rfl ?_ | refine gD rfl ?_ | ((first | refine gE env hN (by kernel_rfl) ?_ | refine gF ?_ | refine gG ?_ | refine gH fun hlen => ?_ | refine gI (by kernel_rfl) ?_ | refine gN rfl ?_ | refine gN (by omega) ?_ | refine gJ rfl ?_ | refine gK (by omega) ?_ | refine gL (by omega) ?_ | refine gK rfl ?_ | refine gO ?_); conv => whnf))
            exact ⟨_, ⟨c, q, by first | omega | (show c.items.length ≤ 12; omega), hq, rfl⟩, .le (mp := [(9, 9), (70, 70), (18, 18)]) (bo := [93]) (LeG.mk' rfl rfl rfl (by repeat' (first | exact trivial | exact ⟨_, .refl _, rfl⟩ | apply And.intro)) (.cons 9 rfl rfl (.refl _) rfl (.cons 70 rfl rfl (.refl _) rfl (.cons 18 (b1 := .rows 3 [(c).row] none) rfl rfl (.rows _ _ _ (by repeat' (first | exact trivial | exact ⟨Lent.refl _, rfl⟩ | exact ⟨Lent.norm _, rfl⟩ | exact ⟨Lent.whole rfl rfl (by first | rfl | exact List.length_append.symm | exact hlenR | simp) rfl (by first | exact .inl rfl | exact .inr rfl), rfl⟩ | apply And.intro))) rfl .nil))) rfl rfl (by rw [hK]; rfl))⟩
        repeat (first | refine gA ?_ | refine gB ?_ | refine gC rfl ?_ | refine gD rfl ?_ | ((first | refine gE env hN (by kernel_rfl) ?_ | refine gF ?_ | refine gG ?_ | refine gH fun hlen => ?_ | refine gI (by kernel_rfl) ?_ | refine gN rfl ?_ | refine gN (by omega) ?_ | refine gJ rfl ?_ | refine gK (by omega) ?_ | refine gL (by omega) ?_ | refine gK rfl ?_ | refine gO ?_); conv => whnf))
        refine boolRes_split (fun hb => ?_) (fun hb => ?_) <;> conv => whnf
        · have spB := mod_spec by_ 3 (by omega)
          have hr2 := modK_range (n := by_) (m := 3)
          generalize modK by_ 3 = b at *
          repeat (first | refine gA ?_ | refine gB ?_ | refine gC rfl ?_ | refine gD rfl ?_ | ((first | refine gE env hN (by kernel_rfl) ?_ | refine gF ?_ | refine gG ?_ | refine gH fun hlen => ?_ | refine gI (by kernel_rfl) ?_ | refine gN rfl ?_ | refine gN (by omega) ?_ | refine gJ rfl ?_ | refine gK (by omega) ?_ | refine gL (by omega) ?_ | refine gK rfl ?_ | refine gO ?_); conv => whnf))
          (refine ⟨_, _, _, callG [] [] [] rfl rfl rfl (by kernel_rfl) (spB) (by repeat' (first | exact trivial | exact Lent.refl _ | exact Lent.norm _ | apply And.intro)) rfl ⟨rfl, rfl, rfl, rfl, rfl, trivial, rfl, rfl⟩, ?_⟩; conv => whnf)
          repeat (first | refine gA ?_ | refine gB ?_ | refine gC rfl ?_ | refine gD rfl ?_ | ((first | refine gE env hN (by kernel_rfl) ?_ | refine gF ?_ | refine gG ?_ | refine gH fun hlen => ?_ | refine gI (by kernel_rfl) ?_ | refine gN rfl ?_ | refine gN (by omega) ?_ | refine gJ rfl ?_ | refine gK (by omega) ?_ | refine gL (by omega) ?_ | refine gK rfl ?_ | refine gO ?_); conv => whnf))
          exact ⟨_, ⟨(Coll.mk c.version (c.version + b - 1) c.items), q, by first | omega | (show c.items.length ≤ 12; omega), hq, rfl⟩, .le (mp := [(9, 9), (70, 70), (18, 18)]) (bo := [93]) (LeG.mk' rfl rfl rfl (by repeat' (first | exact trivial | exact ⟨_, .refl _, rfl⟩ | apply And.intro)) (.cons 9 rfl rfl (.refl _) rfl (.cons 70 rfl rfl (.refl _) rfl (.cons 18 (b1 := .rows 3 [((Coll.mk c.version (c.version + b - 1) c.items)).row] none) rfl rfl (.rows _ _ _ (by repeat' (first | exact trivial | exact ⟨Lent.refl _, rfl⟩ | exact ⟨Lent.norm _, rfl⟩ | exact ⟨Lent.whole rfl rfl (by first | rfl | exact List.length_append.symm | exact hlenR | simp) rfl (by first | exact .inl rfl | exact .inr rfl), rfl⟩ | apply And.intro))) rfl .nil))) rfl rfl (by rw [hK]; rfl))⟩
        repeat (first | refine gA ?_ | refine gB ?_ | refine gC rfl ?_ | refine gD rfl ?_ | ((first | refine gE env hN (by kernel_rfl) ?_ | refine gF ?_ | refine gG ?_ | refine gH fun hlen => ?_ | refine gI (by kernel_rfl) ?_ | refine gN rfl ?_ | refine gN (by omega) ?_ | refine gJ rfl ?_ | refine gK (by omega) ?_ | refine gL (by omega) ?_ | refine gK rfl ?_ | refine gO ?_); conv => whnf))
        refine boolRes_split (fun hb => ?_) (fun hb => ?_) <;> conv => whnf
        · have spB := mod_spec by_ 2 (by omega)
          have hr2 := modK_range (n := by_) (m := 2)
          generalize modK by_ 2 = b at *
          repeat (first | refine gA ?_ | refine gB ?_ | refine gC rfl ?_ | refine gD rfl ?_ | ((first | refine gE env hN (by kernel_rfl) ?_ | refine gF ?_ | refine gG ?_ | refine gH fun hlen => ?_ | refine gI (by kernel_rfl) ?_ | refine gN rfl ?_ | refine gN (by omega) ?_ | refine gJ rfl ?_ | refine gK (by omega) ?_ | refine gL (by omega) ?_ | refine gK rfl ?_ | refine gO ?_); conv => whnf))
          (refine ⟨_, _, _, callG [] [] [] rfl rfl rfl (by kernel_rfl) (spB) (by repeat' (first | exact trivial | exact Lent.refl _ | exact Lent.norm _ | apply And.intro)) rfl ⟨rfl, rfl, rfl, rfl, rfl, trivial, rfl, rfl⟩, ?_⟩; conv => whnf)
          repeat (first | refine gA ?_ | refine gB ?_ | refine gC rfl ?_ | refine gD rfl ?_ | ((first | refine gE env hN (by kernel_rfl) ?_ | refine gF ?_ | refine gG ?_ | refine gH fun hlen => ?_ | refine gI (by kernel_rfl) ?_ | refine gN rfl ?_ | refine gN (by omega) ?_ | refine gJ rfl ?_ | refine gK (by omega) ?_ | refine gL (by omega) ?_ | refine gK rfl ?_ | refine gO ?_); conv => whnf))
          exact ⟨_, ⟨(Coll.mk (1073741824 - b) c.oldest c.items), q, by first | omega | (show c.items.length ≤ 12; omega), hq, rfl⟩, .le (mp := [(9, 9), (70, 70), (18, 18)]) (bo := [93]) (LeG.mk' rfl rfl rfl (by repeat' (first | exact trivial | exact ⟨_, .refl _, rfl⟩ | apply And.intro)) (.cons 9 rfl rfl (.refl _) rfl (.cons 70 rfl rfl (.refl _) rfl (.cons 18 (b1 := .rows 3 [((Coll.mk (1073741824 - b) c.oldest c.items)).row] none) rfl rfl (.rows _ _ _ (by repeat' (first | exact trivial | exact ⟨Lent.refl _, rfl⟩ | exact ⟨Lent.norm _, rfl⟩ | exact ⟨Lent.whole rfl rfl (by first | rfl | exact List.length_append.symm | exact hlenR | simp) rfl (by first | exact .inl rfl | exact .inr rfl), rfl⟩ | apply And.intro))) rfl .nil))) rfl rfl (by rw [hK]; rfl))⟩
        · repeat (first | refine gA ?_ | refine gB ?_ | refine gC rfl ?_ | refine gD rfl ?_ | ((first | refine gE env hN (by kernel_rfl) ?_ | refine gF ?_ | refine gG ?_ | refine gH fun hlen => ?_ | refine gI (by kernel_rfl) ?_ | refine gN rfl ?_ | refine gN (by omega) ?_ | refine gJ rfl ?_ | refine gK (by omega) ?_ | refine gL (by omega) ?_ | refine gK rfl ?_ | refine gO ?_); conv => whnf))
          exact ⟨_, ⟨c, q, by first | omega | (show c.items.length ≤ 12; omega), hq, rfl⟩, .le (mp := [(9, 9), (70, 70), (18, 18)]) (bo := [93]) (LeG.mk' rfl rfl rfl (by repeat' (first | exact trivial | exact ⟨_, .refl _, rfl⟩ | apply And.intro)) (.cons 9 rfl rfl (.refl _) rfl (.cons 70 rfl rfl (.refl _) rfl (.cons 18 (b1 := .rows 3 [(c).row] none) rfl rfl (.rows _ _ _ (by repeat' (first | exact trivial | exact ⟨Lent.refl _, rfl⟩ | exact ⟨Lent.norm _, rfl⟩ | exact ⟨Lent.whole rfl rfl (by first | rfl | exact List.length_append.symm | exact hlenR | simp) rfl (by first | exact .inl rfl | exact .inr rfl), rfl⟩ | apply And.intro))) rfl .nil))) rfl rfl (by rw [hK]; rfl))⟩
      · rintro s ⟨c, q, hlen12, hq, rfl⟩
        have spV := snapValid_spec c
        have spV2 := valid41_spec c
        have hq1 := nextP_le hq
        have sp5 := next_spec l q 5 (by omega) hq
        have spT := table_spec l (nextV l q 5) (nextP l q) hq1
        have spM := mod_spec n 9 (by omega)
        have hr9 := modK_range (n := n) (m := 9)
        generalize (tblF l (nextV l q 5) (nextP l q)).1 = y at *
        generalize (tblF l (nextV l q 5) (nextP l q)).2 = q3 at *
        generalize modK n 9 = n9 at *
        cases hcv : collB c <;> rw [hcv] at spV spV2
        · repeat (first | refine gA ?_ | refine gB ?_ | refine gC rfl ?_ | refine gD rfl ?_ | ((first | refine gE env hN (by kernel_rfl) ?_ | refine gF ?_ | refine gG ?_ | refine gH fun hlen => ?_ | refine gI (by kernel_rfl) ?_ | refine gN rfl ?_ | refine gN (by omega) ?_ | refine gJ rfl ?_ | refine gK (by omega) ?_ | refine gL (by omega) ?_ | refine gK rfl ?_ | refine gO ?_); conv => whnf))
          (refine ⟨_, _, _, callG [] [] [] rfl rfl rfl (by kernel_rfl) (spV) (by repeat' (first | exact trivial | exact Lent.refl _ | exact Lent.norm _ | apply And.intro)) rfl ⟨rfl, rfl, rfl, rfl, rfl, trivial, rfl, rfl⟩, ?_⟩; conv => whnf)
          repeat (first | refine gA ?_ | refine gB ?_ | refine gC rfl ?_ | refine gD rfl ?_ | ((first | refine gE env hN (by kernel_rfl) ?_ | refine gF ?_ | refine gG ?_ | refine gH fun hlen => ?_ | refine gI (by kernel_rfl) ?_ | refine gN rfl ?_ | refine gN (by omega) ?_ | refine gJ rfl ?_ | refine gK (by omega) ?_ | refine gL (by omega) ?_ | refine gK rfl ?_ | refine gO ?_); conv => whnf))
          (refine ⟨_, _, _, callG [] [] [] rfl rfl rfl (by kernel_rfl) (spV2) (by repeat' (first | exact trivial | exact Lent.refl _ | exact Lent.norm _ | apply And.intro)) rfl ⟨rfl, rfl, rfl, rfl, rfl, trivial, rfl, rfl⟩, ?_⟩; conv => whnf)
          repeat (first | refine gA ?_ | refine gB ?_ | refine gC rfl ?_ | refine gD rfl ?_ | ((first | refine gE env hN (by kernel_rfl) ?_ | refine gF ?_ | refine gG ?_ | refine gH fun hlen => ?_ | refine gI (by kernel_rfl) ?_ | refine gN rfl ?_ | refine gN (by omega) ?_ | refine gJ rfl ?_ | refine gK (by omega) ?_ | refine gL (by omega) ?_ | refine gK rfl ?_ | refine gO ?_); conv => whnf))
          (refine ⟨_, _, _, callG [(0, 70)] [] [] rfl rfl rfl (by kernel_rfl) (sp5) (by repeat' (first | exact trivial | exact Lent.refl _ | exact Lent.norm _ | exact Lent.whole rfl rfl (by first | rfl | exact List.length_append.symm | exact hlenR | simp) rfl (by first | exact .inl rfl | exact .inr rfl) | apply And.intro)) rfl ⟨rfl, rfl, rfl, rfl, rfl, by repeat' (first | exact trivial | rfl | apply And.intro), rfl, rfl⟩, ?_⟩; conv => whnf)
          repeat (first | refine gA ?_ | refine gB ?_ | refine gC rfl ?_ | refine gD rfl ?_ | ((first | refine gE env hN (by kernel_rfl) ?_ | refine gF ?_ | refine gG ?_ | refine gH fun hlen => ?_ | refine gI (by kernel_rfl) ?_ | refine gN rfl ?_ | refine gN (by omega) ?_ | refine gJ rfl ?_ | refine gK (by omega) ?_ | refine gL (by omega) ?_ | refine gK rfl ?_ | refine gO ?_); conv => whnf))
          (refine ⟨_, _, _, callG [(0, 70)] [] [] rfl rfl rfl (by kernel_rfl) (spT) (by repeat' (first | exact trivial | exact Lent.refl _ | exact Lent.norm _ | exact Lent.whole rfl rfl (by first | rfl | exact List.length_append.symm | exact hlenR | simp) rfl (by first | exact .inl rfl | exact .inr rfl) | apply And.intro)) rfl ⟨rfl, rfl, rfl, rfl, rfl, by repeat' (first | exact trivial | rfl | apply And.intro), rfl, rfl⟩, ?_⟩; conv => whnf)
          repeat (first | refine gA ?_ | refine gB ?_ | refine gC rfl ?_ | refine gD rfl ?_ | ((first | refine gE env hN (by kernel_rfl) ?_ | refine gF ?_ | refine gG ?_ | refine gH fun hlen => ?_ | refine gI (by kernel_rfl) ?_ | refine gN rfl ?_ | refine gN (by omega) ?_ | refine gJ rfl ?_ | refine gK (by omega) ?_ | refine gL (by omega) ?_ | refine gK rfl ?_ | refine gO ?_); conv => whnf))
          refine W.loopG (fun m st => ∃ k : Nat, k ≤ 2 ∧ m = 2 - k ∧ st = ⟨[(3, .int .i64 n), (18, .bp 18 0), (180, .sl (tblRows [x, y]) false), (181, .int .i64 2), (182, .int .i64 k)], [(18, [.rows 3 [c.row] none])], [18]⟩)
            2 _ ⟨0, by omega, by omega, rfl⟩ ⟨[(18, 18)], [], [], LeG.mk' rfl rfl rfl (by repeat' (first | exact trivial | exact ⟨_, .refl _, rfl⟩ | apply And.intro)) (.cons 18 rfl rfl (.refl _) rfl .nil) rfl rfl (by rw [hK]; rfl)⟩ ?_
          rintro m st ⟨k, hk, rfl, rfl⟩
          repeat (first | refine gA ?_ | refine gB ?_ | refine gC rfl ?_ | refine gD rfl ?_ | ((first | refine gE env hN (by kernel_rfl) ?_ | refine gF ?_ | refine gG ?_ | refine gH fun hlen => ?_ | refine gI (by kernel_rfl) ?_ | refine gN rfl ?_ | refine gN (by omega) ?_ | refine gJ rfl ?_ | refine gK (by omega) ?_ | refine gL (by omega) ?_ | refine gK rfl ?_ | refine gO ?_); conv => whnf))
          refine boolRes_split (fun hb => ?_) (fun hb => ?_) <;> conv => whnf
          · obtain ⟨z, hz⟩ : ∃ z : Table, (tblRows [x, y])[k]? = some z.row := ⟨_, tblRows_get (l := [x, y]) (i := k) (by show k < 2; omega)⟩
            have p1 := put_spec c z
            have p2 := put41_spec c z
            have p3 := same41_spec (putM c z).1 (putM c z).1
            rw [decide_eq_true (rfl : (putM c z).1 = (putM c z).1)] at p3
            generalize (putM c z).1 = d at *
            generalize (putM c z).2 = e at *
            repeat (first | refine gA ?_ | refine gB ?_ | refine gC rfl ?_ | refine gD rfl ?_ | ((first | refine gE env hN (by kernel_rfl) ?_ | refine gF ?_ | refine gG ?_ | refine gH fun hlen => ?_ | refine gI (by kernel_rfl) ?_ | refine gN rfl ?_ | refine gN (by omega) ?_ | refine gJ rfl ?_ | refine gK (by omega) ?_ | refine gL (by omega) ?_ | refine gK rfl ?_ | refine gO ?_); conv => whnf))
            refine rowAt_of (by simpa using hz) ?_
            conv => whnf
            repeat (first | refine gA ?_ | refine gB ?_ | refine gC rfl ?_ | refine gD rfl ?_ | ((first | refine gE env hN (by kernel_rfl) ?_ | refine gF ?_ | refine gG ?_ | refine gH fun hlen => ?_ | refine gI (by kernel_rfl) ?_ | refine gN rfl ?_ | refine gN (by omega) ?_ | refine gJ rfl ?_ | refine gK (by omega) ?_ | refine gL (by omega) ?_ | refine gK rfl ?_ | refine gO ?_); conv => whnf))
            (refine ⟨_, _, _, callG [] [] [] rfl rfl rfl (by kernel_rfl) (p1) (by repeat' (first | exact trivial | exact Lent.refl _ | exact Lent.norm _ | apply And.intro)) rfl ⟨rfl, rfl, rfl, rfl, rfl, trivial, rfl, rfl⟩, ?_⟩; conv => whnf)
            repeat (first | refine gA ?_ | refine gB ?_ | refine gC rfl ?_ | refine gD rfl ?_ | ((first | refine gE env hN (by kernel_rfl) ?_ | refine gF ?_ | refine gG ?_ | refine gH fun hlen => ?_ | refine gI (by kernel_rfl) ?_ | refine gN rfl ?_ | refine gN (by omega) ?_ | refine gJ rfl ?_ | refine gK (by omega) ?_ | refine gL (by omega) ?_ | refine gK rfl ?_ | refine gO ?_); conv => whnf))
            (refine ⟨_, _, _, callG [] [] [] rfl rfl rfl (by kernel_rfl) (p2) (by repeat' (first | exact trivial | exact Lent.refl _ | exact Lent.norm _ | apply And.intro)) rfl ⟨rfl, rfl, rfl, rfl, rfl, trivial, rfl, rfl⟩, ?_⟩; conv => whnf)
            repeat (first | refine gA ?_ | refine gB ?_ | refine gC rfl ?_ | refine gD rfl ?_ | ((first | refine gE env hN (by kernel_rfl) ?_ | refine gF ?_ | refine gG ?_ | refine gH fun hlen => ?_ | refine gI (by kernel_rfl) ?_ | refine gN rfl ?_ | refine gN (by omega) ?_ | refine gJ rfl ?_ | refine gK (by omega) ?_ | refine gL (by omega) ?_ | refine gK rfl ?_ | refine gO ?_); conv => whnf))
            (refine ⟨_, _, _, callG [] [] [] rfl rfl rfl (by kernel_rfl) (p3) (by repeat' (first | exact trivial | exact Lent.refl _ | exact Lent.norm _ | apply And.intro)) rfl ⟨rfl, rfl, rfl, rfl, rfl, trivial, rfl, rfl⟩, ?_⟩; conv => whnf)
            repeat (first | refine gA ?_ | refine gB ?_ | refine gC rfl ?_ | refine gD rfl ?_ | ((first | refine gE env hN (by kernel_rfl) ?_ | refine gF ?_ | refine gG ?_ | refine gH fun hlen => ?_ | refine gI (by kernel_rfl) ?_ | refine gN rfl ?_ | refine gN (by omega) ?_ | refine gJ rfl ?_ | refine gK (by omega) ?_ | refine gL (by omega) ?_ | refine gK rfl ?_ | refine gO ?_); conv => whnf))
            exact ⟨_, _, by omega, ⟨k + 1, by omega, rfl, rfl⟩, ⟨[(18, 18)], [], [], LeG.mk' rfl rfl rfl (by repeat' (first | exact trivial | exact ⟨_, .refl _, rfl⟩ | apply And.intro)) (.cons 18 rfl rfl (.refl _) rfl .nil) rfl rfl (by rw [hK]; rfl)⟩⟩
          repeat (first | refine gA ?_ | refine gB ?_ | refine gC rfl ?_ | refine gD rfl ?_ | ((first | refine gE env hN (by kernel_rfl) ?_ | refine gF ?_ | refine gG ?_ | refine gH fun hlen => ?_ | refine gI (by kernel_rfl) ?_ | refine gN rfl ?_ | refine gN (by omega) ?_ | refine gJ rfl ?_ | refine gK (by omega) ?_ | refine gL (by omega) ?_ | refine gK rfl ?_ | refine gO ?_); conv => whnf))
          (refine ⟨_, _, _, callG [] [] [] rfl rfl rfl (by kernel_rfl) (spM) (by repeat' (first | exact trivial | exact Lent.refl _ | exact Lent.norm _ | apply And.intro)) rfl ⟨rfl, rfl, rfl, rfl, rfl, trivial, rfl, rfl⟩, ?_⟩; conv => whnf)
          repeat (first | refine gA ?_ | refine gB ?_ | refine gC rfl ?_ | refine gD rfl ?_ | ((first | refine gE env hN (by kernel_rfl) ?_ | refine gF ?_ | refine gG ?_ | refine gH fun hlen => ?_ | refine gI (by kernel_rfl) ?_ | refine gN rfl ?_ | refine gN (by omega) ?_ | refine gJ rfl ?_ | refine gK (by omega) ?_ | refine gL (by omega) ?_ | refine gK rfl ?_ | refine gO ?_); conv => whnf))
          refine W.loopG (fun m st => ∃ k : Nat, k ≤ 2 ∧ m = 2 - k ∧ st = ⟨[(18, .bp 18 0), (212, .sl (intRows .i64 [n, n9 - 1]) false), (213, .int .i64 2), (214, .int .i64 k)], [(18, [.rows 3 [c.row] none])], [18]⟩)
            2 _ ⟨0, by omega, by omega, rfl⟩ ⟨[(18, 18)], [], [], LeG.mk' rfl rfl rfl (by repeat' (first | exact trivial | exact ⟨_, .refl _, rfl⟩ | apply And.intro)) (.cons 18 rfl rfl (.refl _) rfl .nil) rfl rfl (by rw [hK]; rfl)⟩ ?_
          rintro m st ⟨k, hk, rfl, rfl⟩
          repeat (first | refine gA ?_ | refine gB ?_ | refine gC rfl ?_ | refine gD rfl ?_ | ((first | refine gE env hN (by kernel_rfl) ?_ | refine gF ?_ | refine gG ?_ | refine gH fun hlen => ?_ | refine gI (by kernel_rfl) ?_ | refine gN rfl ?_ | refine gN (by omega) ?_ | refine gJ rfl ?_ | refine gK (by omega) ?_ | refine gL (by omega) ?_ | refine gK rfl ?_ | refine gO ?_); conv => whnf))
          refine boolRes_split (fun hb => ?_) (fun hb => ?_) <;> conv => whnf
          · obtain ⟨v, hv⟩ : ∃ v : Int, (intRows .i64 [n, n9 - 1])[k]? = some [.int .i64 v] := ⟨_, intRows_get (l := [n, n9 - 1]) (i := k) (by show k < 2; omega)⟩
            have p1 := drop_spec c v
            have p2 := drop41_spec c v
            have p3 := vacuum_spec c v
            have p4 := vacuum41_spec c v
            have p5 := at_spec c v hlen12
            have p6 := at41_spec c v
            have c1 := same41_spec (dropM c v).1 (dropM c v).1
            have c2 := same41_spec (vacM c v).1 (vacM c v).1
            have c3 := sameTables_spec (atM c v).1 (atM c v).1
            rw [decide_eq_true (rfl : (dropM c v).1 = (dropM c v).1)] at c1
            rw [decide_eq_true (rfl : (vacM c v).1 = (vacM c v).1)] at c2
            rw [decide_eq_true (rfl : (atM c v).1 = (atM c v).1)] at c3
            generalize (dropM c v).1 = d1 at *
            generalize (dropM c v).2 = e1 at *
            generalize (vacM c v).1 = d2 at *
            generalize (vacM c v).2 = e2 at *
            generalize (atM c v).1 = d3 at *
            generalize (atM c v).2 = e3 at *
            repeat (first | refine gA ?_ | refine gB ?_ | refine gC rfl ?_ | refine gD rfl ?_ | ((first | refine gE env hN (by kernel_rfl) ?_ | refine gF ?_ | refine gG ?_ | refine gH fun hlen => ?_ | refine gI (by kernel_rfl) ?_ | refine gN rfl ?_ | refine gN (by omega) ?_ | refine gJ rfl ?_ | refine gK (by omega) ?_ | refine gL (by omega) ?_ | refine gK rfl ?_ | refine gO ?_); conv => whnf))
            refine rowAt_of (by simpa using hv) ?_
            conv => whnf
            repeat (first | refine gA ?_ | refine gB ?_ | refine gC rfl ?_ | refine gD rfl ?_ | ((first | refine gE env hN (by kernel_rfl) ?_ | refine gF ?_ | refine gG ?_ | refine gH fun hlen => ?_ | refine gI (by kernel_rfl) ?_ | refine gN rfl ?_ | refine gN (by omega) ?_ | refine gJ rfl ?_ | refine gK (by omega) ?_ | refine gL (by omega) ?_ | refine gK rfl ?_ | refine gO ?_); conv => whnf))
            (refine ⟨_, _, _, callG [] [] [] rfl rfl rfl (by kernel_rfl) (p1) (by repeat' (first | exact trivial | exact Lent.refl _ | exact Lent.norm _ | apply And.intro)) rfl ⟨rfl, rfl, rfl, rfl, rfl, trivial, rfl, rfl⟩, ?_⟩; conv => whnf)
            repeat (first | refine gA ?_ | refine gB ?_ | refine gC rfl ?_ | refine gD rfl ?_ | ((first | refine gE env hN (by kernel_rfl) ?_ | refine gF ?_ | refine gG ?_ | refine gH fun hlen => ?_ | refine gI (by kernel_rfl) ?_ | refine gN rfl ?_ | refine gN (by omega) ?_ | refine gJ rfl ?_ | refine gK (by omega) ?_ | refine gL (by omega) ?_ | refine gK rfl ?_ | refine gO ?_); conv => whnf))
            (refine ⟨_, _, _, callG [] [] [] rfl rfl rfl (by kernel_rfl) (p2) (by repeat' (first | exact trivial | exact Lent.refl _ | exact Lent.norm _ | apply And.intro)) rfl ⟨rfl, rfl, rfl, rfl, rfl, trivial, rfl, rfl⟩, ?_⟩; conv => whnf)
            repeat (first | refine gA ?_ | refine gB ?_ | refine gC rfl ?_ | refine gD rfl ?_ | ((first | refine gE env hN (by kernel_rfl) ?_ | refine gF ?_ | refine gG ?_ | refine gH fun hlen => ?_ | refine gI (by kernel_rfl) ?_ | refine gN rfl ?_ | refine gN (by omega) ?_ | refine gJ rfl ?_ | refine gK (by omega) ?_ | refine gL (by omega) ?_ | refine gK rfl ?_ | refine gO ?_); conv => whnf))
            (refine ⟨_, _, _, callG [] [] [] rfl rfl rfl (by kernel_rfl) (p3) (by repeat' (first | exact trivial | exact Lent.refl _ | exact Lent.norm _ | apply And.intro)) rfl ⟨rfl, rfl, rfl, rfl, rfl, trivial, rfl, rfl⟩, ?_⟩; conv => whnf)
            repeat (first | refine gA ?_ | refine gB ?_ | refine gC rfl ?_ | refine gD rfl ?_ | ((first | refine gE env hN (by kernel_rfl) ?_ | refine gF ?_ | refine gG ?_ | refine gH fun hlen => ?_ | refine gI (by kernel_rfl) ?_ | refine gN rfl ?_ | refine gN (by omega) ?_ | refine gJ rfl ?_ | refine gK (by omega) ?_ | refine gL (by omega) ?_ | refine gK rfl ?_ | refine gO ?_); conv => whnf))
            (refine ⟨_, _, _, callG [] [] [] rfl rfl rfl (by kernel_rfl) (p4) (by repeat' (first | exact trivial | exact Lent.refl _ | exact Lent.norm _ | apply And.intro)) rfl ⟨rfl, rfl, rfl, rfl, rfl, trivial, rfl, rfl⟩, ?_⟩; conv => whnf)
            repeat (first | refine gA ?_ | refine gB ?_ | refine gC rfl ?_ | refine gD rfl ?_ | ((first | refine gE env hN (by kernel_rfl) ?_ | refine gF ?_ | refine gG ?_ | refine gH fun hlen => ?_ | refine gI (by kernel_rfl) ?_ | refine gN rfl ?_ | refine gN (by omega) ?_ | refine gJ rfl ?_ | refine gK (by omega) ?_ | refine gL (by omega) ?_ | refine gK rfl ?_ | refine gO ?_); conv => whnf))
            (refine ⟨_, _, _, callG [] [] [] rfl rfl rfl (by kernel_rfl) (p5) (by repeat' (first | exact trivial | exact Lent.refl _ | exact Lent.norm _ | apply And.intro)) rfl ⟨rfl, rfl, rfl, rfl, rfl, trivial, rfl, rfl⟩, ?_⟩; conv => whnf)
            repeat (first | refine gA ?_ | refine gB ?_ | refine gC rfl ?_ | refine gD rfl ?_ | ((first | refine gE env hN (by kernel_rfl) ?_ | refine gF ?_ | refine gG ?_ | refine gH fun hlen => ?_ | refine gI (by kernel_rfl) ?_ | refine gN rfl ?_ | refine gN (by omega) ?_ | refine gJ rfl ?_ | refine gK (by omega) ?_ | refine gL (by omega) ?_ | refine gK rfl ?_ | refine gO ?_); conv => whnf))
            (refine ⟨_, _, _, callG [] [] [] rfl rfl rfl (by kernel_rfl) (p6) (by repeat' (first | exact trivial | exact Lent.refl _ | exact Lent.norm _ | apply And.intro)) rfl ⟨rfl, rfl, rfl, rfl, rfl, trivial, rfl, rfl⟩, ?_⟩; conv => whnf)
            repeat (first | refine gA ?_ | refine gB ?_ | refine gC rfl ?_ | refine gD rfl ?_ | ((first | refine gE env hN (by kernel_rfl) ?_ | refine gF ?_ | refine gG ?_ | refine gH fun hlen => ?_ | refine gI (by kernel_rfl) ?_ | refine gN rfl ?_ | refine gN (by omega) ?_ | refine gJ rfl ?_ | refine gK (by omega) ?_ | refine gL (by omega) ?_ | refine gK rfl ?_ | refine gO ?_); conv => whnf))
            (refine ⟨_, _, _, callG [] [] [] rfl rfl rfl (by kernel_rfl) (c1) (by repeat' (first | exact trivial | exact Lent.refl _ | exact Lent.norm _ | apply And.intro)) rfl ⟨rfl, rfl, rfl, rfl, rfl, trivial, rfl, rfl⟩, ?_⟩; conv => whnf)
            repeat (first | refine gA ?_ | refine gB ?_ | refine gC rfl ?_ | refine gD rfl ?_ | ((first | refine gE env hN (by kernel_rfl) ?_ | refine gF ?_ | refine gG ?_ | refine gH fun hlen => ?_ | refine gI (by kernel_rfl) ?_ | refine gN rfl ?_ | refine gN (by omega) ?_ | refine gJ rfl ?_ | refine gK (by omega) ?_ | refine gL (by omega) ?_ | refine gK rfl ?_ | refine gO ?_); conv => whnf))
            (refine ⟨_, _, _, callG [] [] [] rfl rfl rfl (by kernel_rfl) (c2) (by repeat' (first | exact trivial | exact Lent.refl _ | exact Lent.norm _ | apply And.intro)) rfl ⟨rfl, rfl, rfl, rfl, rfl, trivial, rfl, rfl⟩, ?_⟩; conv => whnf)
            repeat (first | refine gA ?_ | refine gB ?_ | refine gC rfl ?_ | refine gD rfl ?_ | ((first | refine gE env hN (by kernel_rfl) ?_ | refine gF ?_ | refine gG ?_ | refine gH fun hlen => ?_ | refine gI (by kernel_rfl) ?_ | refine gN rfl ?_ | refine gN (by omega) ?_ | refine gJ rfl ?_ | refine gK (by omega) ?_ | refine gL (by omega) ?_ | refine gK rfl ?_ | refine gO ?_); conv => whnf))
            (refine ⟨_, _, _, callG [] [] [] rfl rfl rfl (by kernel_rfl) (c3) (by repeat' (first | exact trivial | exact Lent.refl _ | exact Lent.norm _ | apply And.intro)) rfl ⟨rfl, rfl, rfl, rfl, rfl, trivial, rfl, rfl⟩, ?_⟩; conv => whnf)
            repeat (first | refine gA ?_ | refine gB ?_ | refine gC rfl ?_ | refine gD rfl ?_ | ((first | refine gE env hN (by kernel_rfl) ?_ | refine gF ?_ | refine gG ?_ | refine gH fun hlen => ?_ | refine gI (by kernel_rfl) ?_ | refine gN rfl ?_ | refine gN (by omega) ?_ | refine gJ rfl ?_ | refine gK (by omega) ?_ | refine gL (by omega) ?_ | refine gK rfl ?_ | refine gO ?_); conv => whnf))
            exact ⟨_, _, by omega, ⟨k + 1, by omega, rfl, rfl⟩, ⟨[(18, 18)], [], [], LeG.mk' rfl rfl rfl (by repeat' (first | exact trivial | exact ⟨_, .refl _, rfl⟩ | apply And.intro)) (.cons 18 rfl rfl (.refl _) rfl .nil) rfl rfl (by rw [hK]; rfl)⟩⟩
          · repeat (first | refine gA ?_ | refine gB ?_ | refine gC rfl ?_ | refine gD rfl ?_ | ((first | refine gE env hN (by kernel_rfl) ?_ | refine gF ?_ | refine gG ?_ | refine gH fun hlen => ?_ | refine gI (by kernel_rfl) ?_ | refine gN rfl ?_ | refine gN (by omega) ?_ | refine gJ rfl ?_ | refine gK (by omega) ?_ | refine gL (by omega) ?_ | refine gK rfl ?_ | refine gO ?_); conv => whnf))
            (refine ⟨_, _, _, callG [] [] [] rfl rfl rfl (by kernel_rfl) (spA) (by repeat' (first | exact trivial | exact Lent.refl _ | exact Lent.norm _ | apply And.intro)) rfl ⟨rfl, rfl, rfl, rfl, rfl, trivial, rfl, rfl⟩, ?_⟩; conv => whnf)
            repeat (first | refine gA ?_ | refine gB ?_ | refine gC rfl ?_ | refine gD rfl ?_ | ((first | refine gE env hN (by kernel_rfl) ?_ | refine gF ?_ | refine gG ?_ | refine gH fun hlen => ?_ | refine gI (by kernel_rfl) ?_ | refine gN rfl ?_ | refine gN (by omega) ?_ | refine gJ rfl ?_ | refine gK (by omega) ?_ | refine gL (by omega) ?_ | refine gK rfl ?_ | refine gO ?_ | refine gM ?_); conv => whnf))
            exact ret0 rfl rfl rfl
        · repeat (first | refine gA ?_ | refine gB ?_ | refine gC rfl ?_ | refine gD rfl ?_ | ((first | refine gE env hN (by kernel_rfl) ?_ | refine gF ?_ | refine gG ?_ | refine gH fun hlen => ?_ | refine gI (by kernel_rfl) ?_ | refine gN rfl ?_ | refine gN (by omega) ?_ | refine gJ rfl ?_ | refine gK (by omega) ?_ | refine gL (by omega) ?_ | refine gK rfl ?_ | refine gO ?_); conv => whnf))
          (refine ⟨_, _, _, callG [] [] [] rfl rfl rfl (by kernel_rfl) (spV) (by repeat' (first | exact trivial | exact Lent.refl _ | exact Lent.norm _ | apply And.intro)) rfl ⟨rfl, rfl, rfl, rfl, rfl, trivial, rfl, rfl⟩, ?_⟩; conv => whnf)
          repeat (first | refine gA ?_ | refine gB ?_ | refine gC rfl ?_ | refine gD rfl ?_ | ((first | refine gE env hN (by kernel_rfl) ?_ | refine gF ?_ | refine gG ?_ | refine gH fun hlen => ?_ | refine gI (by kernel_rfl) ?_ | refine gN rfl ?_ | refine gN (by omega) ?_ | refine gJ rfl ?_ | refine gK (by omega) ?_ | refine gL (by omega) ?_ | refine gK rfl ?_ | refine gO ?_); conv => whnf))
          (refine ⟨_, _, _, callG [] [] [] rfl rfl rfl (by kernel_rfl) (spV2) (by repeat' (first | exact trivial | exact Lent.refl _ | exact Lent.norm _ | apply And.intro)) rfl ⟨rfl, rfl, rfl, rfl, rfl, trivial, rfl, rfl⟩, ?_⟩; conv => whnf)
          repeat (first | refine gA ?_ | refine gB ?_ | refine gC rfl ?_ | refine gD rfl ?_ | ((first | refine gE env hN (by kernel_rfl) ?_ | refine gF ?_ | refine gG ?_ | refine gH fun hlen => ?_ | refine gI (by kernel_rfl) ?_ | refine gN rfl ?_ | refine gN (by omega) ?_ | refine gJ rfl ?_ | refine gK (by omega) ?_ | refine gL (by omega) ?_ | refine gK rfl ?_ | refine gO ?_); conv => whnf))
          (refine ⟨_, _, _, callG [(0, 70)] [] [] rfl rfl rfl (by kernel_rfl) (sp5) (by repeat' (first | exact trivial | exact Lent.refl _ | exact Lent.norm _ | exact Lent.whole rfl rfl (by first | rfl | exact List.length_append.symm | exact hlenR | simp) rfl (by first | exact .inl rfl | exact .inr rfl) | apply And.intro)) rfl ⟨rfl, rfl, rfl, rfl, rfl, by repeat' (first | exact trivial | rfl | apply And.intro), rfl, rfl⟩, ?_⟩; conv => whnf)
          repeat (first | refine gA ?_ | refine gB ?_ | refine gC rfl ?_ | refine gD rfl ?_ | ((first | refine gE env hN (by kernel_rfl) ?_ | refine gF ?_ | refine gG ?_ | refine gH fun hlen => ?_ | refine gI (by kernel_rfl) ?_ | refine gN rfl ?_ | refine gN (by omega) ?_ | refine gJ rfl ?_ | refine gK (by omega) ?_ | refine gL (by omega) ?_ | refine gK rfl ?_ | refine gO ?_); conv => whnf))
          (refine ⟨_, _, _, callG [(0, 70)] [] [] rfl rfl rfl (by kernel_rfl) (spT) (by repeat' (first | exact trivial | exact Lent.refl _ | exact Lent.norm _ | exact Lent.whole rfl rfl (by first | rfl | exact List.length_append.symm | exact hlenR | simp) rfl (by first | exact .inl rfl | exact .inr rfl) | apply And.intro)) rfl ⟨rfl, rfl, rfl, rfl, rfl, by repeat' (first | exact trivial | rfl | apply And.intro), rfl, rfl⟩, ?_⟩; conv => whnf)
          repeat (first | refine gA ?_ | refine gB ?_ | refine gC rfl ?_ | refine gD rfl ?_ | ((first | refine gE env hN (by kernel_rfl) ?_ | refine gF ?_ | refine gG ?_ | refine gH fun hlen => ?_ | refine gI (by kernel_rfl) ?_ | refine gN rfl ?_ | refine gN (by omega) ?_ | refine gJ rfl ?_ | refine gK (by omega) ?_ | refine gL (by omega) ?_ | refine gK rfl ?_ | refine gO ?_); conv => whnf))
          refine W.loopG (fun m st => ∃ k : Nat, k ≤ 2 ∧ m = 2 - k ∧ st = ⟨[(3, .int .i64 n), (18, .bp 18 0), (180, .sl (tblRows [x, y]) false), (181, .int .i64 2), (182, .int .i64 k)], [(18, [.rows 3 [c.row] none])], [18]⟩)
            2 _ ⟨0, by omega, by omega, rfl⟩ ⟨[(18, 18)], [], [], LeG.mk' rfl rfl rfl (by repeat' (first | exact trivial | exact ⟨_, .refl _, rfl⟩ | apply And.intro)) (.cons 18 rfl rfl (.refl _) rfl .nil) rfl rfl (by rw [hK]; rfl)⟩ ?_
          rintro m st ⟨k, hk, rfl, rfl⟩
          repeat (first | refine gA ?_ | refine gB ?_ | refine gC rfl ?_ | refine gD rfl ?_ | ((first | refine gE env hN (by kernel_rfl) ?_ | refine gF ?_ | refine gG ?_ | refine gH fun hlen => ?_ | refine gI (by kernel_rfl) ?_ | refine gN rfl ?_ | refine gN (by omega) ?_ | refine gJ rfl ?_ | refine gK (by omega) ?_ | refine gL (by omega) ?_ | refine gK rfl ?_ | refine gO ?_); conv => whnf))
          refine boolRes_split (fun hb => ?_) (fun hb => ?_) <;> conv => whnf
          · obtain ⟨z, hz⟩ : ∃ z : Table, (tblRows [x, y])[k]? = some z.row := ⟨_, tblRows_get (l := [x, y]) (i := k) (by show k < 2; omega)⟩
            have p1 := put_spec c z
            have p2 := put41_spec c z
            have p3 := same41_spec (putM c z).1 (putM c z).1
            rw [decide_eq_true (rfl : (putM c z).1 = (putM c z).1)] at p3
            generalize (putM c z).1 = d at *
            generalize (putM c z).2 = e at *
            repeat (first | refine gA ?_ | refine gB ?_ | refine gC rfl ?_ | refine gD rfl ?_ | ((first | refine gE env hN (by kernel_rfl) ?_ | refine gF ?_ | refine gG ?_ | refine gH fun hlen => ?_ | refine gI (by kernel_rfl) ?_ | refine gN rfl ?_ | refine gN (by omega) ?_ | refine gJ rfl ?_ | refine gK (by omega) ?_ | refine gL (by omega) ?_ | refine gK rfl ?_ | refine gO ?_); conv => whnf))
            refine rowAt_of (by simpa using hz) ?_
            conv => whnf
            repeat (first | refine gA ?_ | refine gB ?_ | refine gC rfl ?_ | refine gD rfl ?_ | ((first | refine gE env hN (by kernel_rfl) ?_ | refine gF ?_ | refine gG ?_ | refine gH fun hlen => ?_ | refine gI (by kernel_rfl) ?_ | refine gN rfl ?_ | refine gN (by omega) ?_ | refine gJ rfl ?_ | refine gK (by omega) ?_ | refine gL (by omega) ?_ | refine gK rfl ?_ | refine gO ?_); conv => whnf))
            (refine ⟨_, _, _, callG [] [] [] rfl rfl rfl (by kernel_rfl) (p1) (by repeat' (first | exact trivial | exact Lent.refl _ | exact Lent.norm _ | apply And.intro)) rfl ⟨rfl, rfl, rfl, rfl, rfl, trivial, rfl, rfl⟩, ?_⟩; conv => whnf)
            repeat (first | refine gA ?_ | refine gB ?_ | refine gC rfl ?_ | refine gD rfl ?_ | ((first | refine gE env hN (by kernel_rfl) ?_ | refine gF ?_ | refine gG ?_ | refine gH fun hlen => ?_ | refine gI (by kernel_rfl) ?_ | refine gN rfl ?_ | refine gN (by omega) ?_ | refine gJ rfl ?_ | refine gK (by omega) ?_ | refine gL (by omega) ?_ | refine gK rfl ?_ | refine gO ?_); conv => whnf))
            (refine ⟨_, _, _, callG [] [] [] rfl rfl rfl (by kernel_rfl) (p2) (by repeat' (first | exact trivial | exact Lent.refl _ | exact Lent.norm _ | apply And.intro)) rfl ⟨rfl, rfl, rfl, rfl, rfl, trivial, rfl, rfl⟩, ?_⟩; conv => whnf)
            repeat (first | refine gA ?_ | refine gB ?_ | refine gC rfl ?_ | refine gD rfl ?_ | ((first | refine gE env hN (by kernel_rfl) ?_ | refine gF ?_ | refine gG ?_ | refine gH fun hlen => ?_ | refine gI (by kernel_rfl) ?_ | refine gN rfl ?_ | refine gN (by omega) ?_ | refine gJ rfl ?_ | refine gK (by omega) ?_ | refine gL (by omega) ?_ | refine gK rfl ?_ | refine gO ?_); conv => whnf))
            (refine ⟨_, _, _, callG [] [] [] rfl rfl rfl (by kernel_rfl) (p3) (by repeat' (first | exact trivial | exact Lent.refl _ | exact Lent.norm _ | apply And.intro)) rfl ⟨rfl, rfl, rfl, rfl, rfl, trivial, rfl, rfl⟩, ?_⟩; conv => whnf)
            repeat (first | refine gA ?_ | refine gB ?_ | refine gC rfl ?_ | refine gD rfl ?_ | ((first | refine gE env hN (by kernel_rfl) ?_ | refine gF ?_ | refine gG ?_ | refine gH fun hlen => ?_ | refine gI (by kernel_rfl) ?_ | refine gN rfl ?_ | refine gN (by omega) ?_ | refine gJ rfl ?_ | refine gK (by omega) ?_ | refine gL (by omega) ?_ | refine gK rfl ?_ | refine gO ?_); conv => whnf))
            exact ⟨_, _, by omega, ⟨k + 1, by omega, rfl, rfl⟩, ⟨[(18, 18)], [], [], LeG.mk' rfl rfl rfl (by repeat' (first | exact trivial | exact ⟨_, .refl _, rfl⟩ | apply And.intro)) (.cons 18 rfl rfl (.refl _) rfl .nil) rfl rfl (by rw [hK]; rfl)⟩⟩
          repeat (first | refine gA ?_ | refine gB ?_ | refine gC rfl ?_ | refine gD rfl ?_ | ((first | refine gE env hN (by kernel_rfl) ?_ | refine gF ?_ | refine gG ?_ | refine gH fun hlen => ?_ | refine gI (by kernel_rfl) ?_ | refine gN rfl ?_ | refine gN (by omega) ?_ | refine gJ rfl ?_ | refine gK (by omega) ?_ | refine gL (by omega) ?_ | refine gK rfl ?_ | refine gO ?_); conv => whnf))
          (refine ⟨_, _, _, callG [] [] [] rfl rfl rfl (by kernel_rfl) (spM) (by repeat' (first | exact trivial | exact Lent.refl _ | exact Lent.norm _ | apply And.intro)) rfl ⟨rfl, rfl, rfl, rfl, rfl, trivial, rfl, rfl⟩, ?_⟩; conv => whnf)
          repeat (first | refine gA ?_ | refine gB ?_ | refine gC rfl ?_ | refine gD rfl ?_ | ((first | refine gE env hN (by kernel_rfl) ?_ | refine gF ?_ | refine gG ?_ | refine gH fun hlen => ?_ | refine gI (by kernel_rfl) ?_ | refine gN rfl ?_ | refine gN (by omega) ?_ | refine gJ rfl ?_ | refine gK (by omega) ?_ | refine gL (by omega) ?_ | refine gK rfl ?_ | refine gO ?_); conv => whnf))
          refine W.loopG (fun m st => ∃ k : Nat, k ≤ 2 ∧ m = 2 - k ∧ st = ⟨[(18, .bp 18 0), (212, .sl (intRows .i64 [n, n9 - 1]) false), (213, .int .i64 2), (214, .int .i64 k)], [(18, [.rows 3 [c.row] none])], [18]⟩)
            2 _ ⟨0, by omega, by omega, rfl⟩ ⟨[(18, 18)], [], [], LeG.mk' rfl rfl rfl (by repeat' (first | exact trivial | exact ⟨_, .refl _, rfl⟩ | apply And.intro)) (.cons 18 rfl rfl (.refl _) rfl .nil) rfl rfl (by rw [hK]; rfl)⟩ ?_
          rintro m st ⟨k, hk, rfl, rfl⟩
          repeat (first | refine gA ?_ | refine gB ?_ | refine gC rfl ?_ | refine gD rfl ?_ | ((first | refine gE env hN (by kernel_rfl) ?_ | refine gF ?_ | refine gG ?_ | refine gH fun hlen => ?_ | refine gI (by kernel_rfl) ?_ | refine gN rfl ?_ | refine gN (by omega) ?_ | refine gJ rfl ?_ | refine gK (by omega) ?_ | refine gL (by omega) ?_ | refine gK rfl ?_ | refine gO ?_); conv => whnf))
          refine boolRes_split (fun hb => ?_) (fun hb => ?_) <;> conv => whnf
          · obtain ⟨v, hv⟩ : ∃ v : Int, (intRows .i64 [n, n9 - 1])[k]? = some [.int .i64 v] := ⟨_, intRows_get (l := [n, n9 - 1]) (i := k) (by show k < 2; omega)⟩
            have p1 := drop_spec c v
            have p2 := drop41_spec c v
            have p3 := vacuum_spec c v
            have p4 := vacuum41_spec c v
            have p5 := at_spec c v hlen12
            have p6 := at41_spec c v
            have c1 := same41_spec (dropM c v).1 (dropM c v).1
            have c2 := same41_spec (vacM c v).1 (vacM c v).1
            have c3 := sameTables_spec (atM c v).1 (atM c v).1
            rw [decide_eq_true (rfl : (dropM c v).1 = (dropM c v).1)] at c1
            rw [decide_eq_true (rfl : (vacM c v).1 = (vacM c v).1)] at c2
            rw [decide_eq_true (rfl : (atM c v).1 = (atM c v).1)] at c3
            generalize (dropM c v).1 = d1 at *
            generalize (dropM c v).2 = e1 at *
            generalize (vacM c v).1 = d2 at *
            generalize (vacM c v).2 = e2 at *
            generalize (atM c v).1 = d3 at *
            generalize (atM c v).2 = e3 at *
            repeat (first | refine gA ?_ | refine gB ?_ | refine gC rfl ?_ | refine gD rfl ?_ | ((first | refine gE env hN (by kernel_rfl) ?_ | refine gF ?_ | refine gG ?_ | refine gH fun hlen => ?_ | refine gI (by kernel_rfl) ?_ | refine gN rfl ?_ | refine gN (by omega) ?_ | refine gJ rfl ?_ | refine gK (by omega) ?_ | refine gL (by omega) ?_ | refine gK rfl ?_ | refine gO ?_); conv => whnf))
            refine rowAt_of (by simpa using hv) ?_
            conv => whnf
            repeat (first | refine gA ?_ | refine gB ?_ | refine gC rfl ?_ | refine gD rfl ?_ | ((first | refine gE env hN (by kernel_rfl) ?_ | refine gF ?_ | refine gG ?_ | refine gH fun hlen => ?_ | refine gI (by kernel_rfl) ?_ | refine gN rfl ?_ | refine gN (by omega) ?_ | refine gJ rfl ?_ | refine gK (by omega) ?_ | refine gL (by omega) ?_ | refine gK rfl ?_ | refine gO ?_); conv => whnf))
            (refine ⟨_, _, _, callG [] [] [] rfl rfl rfl (by kernel_rfl) (p1) (by repeat' (first | exact trivial | exact Lent.refl _ | exact Lent.norm _ | apply And.intro)) rfl ⟨rfl, rfl, rfl, rfl, rfl, trivial, rfl, rfl⟩, ?_⟩; conv => whnf)
            repeat (first | refine gA ?_ | refine gB ?_ | refine gC rfl ?_ | refine gD rfl ?_ | ((first | refine gE env hN (by kernel_rfl) ?_ | refine gF ?_ | refine gG ?_ | refine gH fun hlen => ?_ | refine gI (by kernel_rfl) ?_ | refine gN rfl ?_ | refine gN (by omega) ?_ | refine gJ rfl ?_ | refine gK (by omega) ?_ | refine gL (by omega) ?_ | refine gK rfl ?_ | refine gO ?_); conv => whnf))
            (refine ⟨_, _, _, callG [] [] [] rfl rfl rfl (by kernel_rfl) (p2) (by repeat' (first | exact trivial | exact Lent.refl _ | exact Lent.norm _ | apply And.intro)) rfl ⟨rfl, rfl, rfl, rfl, rfl, trivial, rfl, rfl⟩, ?_⟩; conv => whnf)
            repeat (first | refine gA ?_ | refine gB ?_ | refine gC rfl ?_ | refine gD rfl ?_ | ((first | refine gE env hN (by kernel_rfl) ?_ | refine gF ?_ | refine gG ?_ | refine gH fun hlen => ?_ | refine gI (by kernel_rfl) ?_ | refine gN rfl ?_ | refine gN (by omega) ?_ | refine gJ rfl ?_ | refine gK (by omega) ?_ | refine gL (by omega) ?_ | refine gK rfl ?_ | refine gO ?_); conv => whnf))
            (refine ⟨_, _, _, callG [] [] [] rfl rfl rfl (by kernel_rfl) (p3) (by repeat' (first | exact trivial | exact Lent.refl _ | exact Lent.norm _ | apply And.intro)) rfl ⟨rfl, rfl, rfl, rfl, rfl, trivial, rfl, rfl⟩, ?_⟩; conv => whnf)
            repeat (first | refine gA ?_ | refine gB ?_ | refine gC rfl ?_ | refine gD rfl ?_ | ((first | refine gE env hN (by kernel_rfl) ?_ | refine gF ?_ | refine gG ?_ | refine gH fun hlen => ?_ | refine gI (by kernel_rfl) ?_ | refine gN rfl ?_ | refine gN (by omega) ?_ | refine gJ rfl ?_ | refine gK (by omega) ?_ | refine gL (by omega) ?_ | refine gK rfl ?_ | refine gO ?_); conv => whnf))
            (refine ⟨_, _, _, callG [] [] [] rfl rfl rfl (by kernel_rfl) (p4) (by repeat' (first | exact trivial | exact Lent.refl _ | exact Lent.norm _ | apply And.intro)) rfl ⟨rfl, rfl, rfl, rfl, rfl, trivial, rfl, rfl⟩, ?_⟩; conv => whnf)
            repeat (first | refine gA ?_ | refine gB ?_ | refine gC rfl ?_ | refine gD rfl ?_ | ((first | refine gE env hN (by kernel_rfl) ?_ | refine gF ?_ | refine gG ?_ | refine gH fun hlen => ?_ | refine gI (by kernel_rfl) ?_ | refine gN rfl ?_ | refine gN (by omega) ?_ | refine gJ rfl ?_ | refine gK (by omega) ?_ | refine gL (by omega) ?_ | refine gK rfl ?_ | refine gO ?_); conv => whnf))
            (refine ⟨_, _, _, callG [] [] [] rfl rfl rfl (by kernel_rfl) (p5) (by repeat' (first | exact trivial | exact Lent.refl _ | exact Lent.norm _ | apply And.intro)) rfl ⟨rfl, rfl, rfl, rfl, rfl, trivial, rfl, rfl⟩, ?_⟩; conv => whnf)
            repeat (first | refine gA ?_ | refine gB ?_ | refine gC rfl ?_ | refine gD rfl ?_ | ((first | refine gE env hN (by kernel_rfl) ?_ | refine gF ?_ | refine gG ?_ | refine gH fun hlen => ?_ | refine gI (by kernel_rfl) ?_ | refine gN rfl ?_ | refine gN (by omega) ?_ | refine gJ rfl ?_ | refine gK (by omega) ?_ | refine gL (by omega) ?_ | refine gK rfl ?_ | refine gO ?_); conv => whnf))
            (refine ⟨_, _, _, callG [] [] [] rfl rfl rfl (by kernel_rfl) (p6) (by repeat' (first | exact trivial | exact Lent.refl _ | exact Lent.norm _ | apply And.intro)) rfl ⟨rfl, rfl, rfl, rfl, rfl, trivial, rfl, rfl⟩, ?_⟩; conv => whnf)
            repeat (first | refine gA ?_ | refine gB ?_ | refine gC rfl ?_ | refine gD rfl ?_ | ((first | refine gE env hN (by kernel_rfl) ?_ | refine gF ?_ | refine gG ?_ | refine gH fun hlen => ?_ | refine gI (by kernel_rfl) ?_ | refine gN rfl ?_ | refine gN (by omega) ?_ | refine gJ rfl ?_ | refine gK (by omega) ?_ | refine gL (by omega) ?_ | refine gK rfl ?_ | refine gO ?_); conv => whnf))
            (refine ⟨_, _, _, callG [] [] [] rfl rfl rfl (by kernel_rfl) (c1) (by repeat' (first | exact trivial | exact Lent.refl _ | exact Lent.norm _ | apply And.intro)) rfl ⟨rfl, rfl, rfl, rfl, rfl, trivial, rfl, rfl⟩, ?_⟩; conv => whnf)
            repeat (first | refine gA ?_ | refine gB ?_ | refine gC rfl ?_ | refine gD rfl ?_ | ((first | refine gE env hN (by kernel_rfl) ?_ | refine gF ?_ | refine gG ?_ | refine gH fun hlen => ?_ | refine gI (by kernel_rfl) ?_ | refine gN rfl ?_ | refine gN (by omega) ?_ | refine gJ rfl ?_ | refine gK (by omega) ?_ | refine gL (by omega) ?_ | refine gK rfl ?_ | refine gO ?_); conv => whnf))
            (refine ⟨_, _, _, callG [] [] [] rfl rfl rfl (by kernel_rfl) (c2) (by repeat' (first | exact trivial | exact Lent.refl _ | exact Lent.norm _ | apply And.intro)) rfl ⟨rfl, rfl, rfl, rfl, rfl, trivial, rfl, rfl⟩, ?_⟩; conv => whnf)
            repeat (first | refine gA ?_ | refine gB ?_ | refine gC rfl ?_ | refine gD rfl ?_ | ((first | refine gE env hN (by kernel_rfl) ?_ | refine gF ?_ | refine gG ?_ | refine gH fun hlen => ?_ | refine gI (by kernel_rfl) ?_ | refine gN rfl ?_ | refine gN (by omega) ?_ | refine gJ rfl ?_ | refine gK (by omega) ?_ | refine gL (by omega) ?_ | refine gK rfl ?_ | refine gO ?_); conv => whnf))
            (refine ⟨_, _, _, callG [] [] [] rfl rfl rfl (by kernel_rfl) (c3) (by repeat' (first | exact trivial | exact Lent.refl _ | exact Lent.norm _ | apply And.intro)) rfl ⟨rfl, rfl, rfl, rfl, rfl, trivial, rfl, rfl⟩, ?_⟩; conv => whnf)
            repeat (first | refine gA ?_ | refine gB ?_ | refine gC rfl ?_ | refine gD rfl ?_ | ((first | refine gE env hN (by kernel_rfl) ?_ | refine gF ?_ | refine gG ?_ | refine gH fun hlen => ?_ | refine gI (by kernel_rfl) ?_ | refine gN rfl ?_ | refine gN (by omega) ?_ | refine gJ rfl ?_ | refine gK (by omega) ?_ | refine gL (by omega) ?_ | refine gK rfl ?_ | refine gO ?_); conv => whnf))
            exact ⟨_, _, by omega, ⟨k + 1, by omega, rfl, rfl⟩, ⟨[(18, 18)], [], [], LeG.mk' rfl rfl rfl (by repeat' (first | exact trivial | exact ⟨_, .refl _, rfl⟩ | apply And.intro)) (.cons 18 rfl rfl (.refl _) rfl .nil) rfl rfl (by rw [hK]; rfl)⟩⟩
          · repeat (first | refine gA ?_ | refine gB ?_ | refine gC rfl ?_ | refine gD rfl ?_ | ((first | refine gE env hN (by kernel_rfl) ?_ | refine gF ?_ | refine gG ?_ | refine gH fun hlen => ?_ | refine gI (by kernel_rfl) ?_ | refine gN rfl ?_ | refine gN (by omega) ?_ | refine gJ rfl ?_ | refine gK (by omega) ?_ | refine gL (by omega) ?_ | refine gK rfl ?_ | refine gO ?_); conv => whnf))
            (refine ⟨_, _, _, callG [] [] [] rfl rfl rfl (by kernel_rfl) (spA) (by repeat' (first | exact trivial | exact Lent.refl _ | exact Lent.norm _ | apply And.intro)) rfl ⟨rfl, rfl, rfl, rfl, rfl, trivial, rfl, rfl⟩, ?_⟩; conv => whnf)
            repeat (first | refine gA ?_ | refine gB ?_ | refine gC rfl ?_ | refine gD rfl ?_ | ((first | refine gE env hN (by kernel_rfl) ?_ | refine gF ?_ | refine gG ?_ | refine gH fun hlen => ?_ | refine gI (by kernel_rfl) ?_ | refine gN rfl ?_ | refine gN (by omega) ?_ | refine gJ rfl ?_ | refine gK (by omega) ?_ | refine gL (by omega) ?_ | refine gK rfl ?_ | refine gO ?_ | refine gM ?_); conv => whnf))
            exact ret0 rfl rfl rfl
  · rw [decide_eq_false hll] at spL
    repeat (first | refine gA ?_ | refine gB ?_ | refine gC rfl ?_ | refine gD rfl ?_ | ((first | refine gE env hN (by kernel_rfl) ?_ | refine gF ?_ | refine gG ?_ | refine gH fun hlen => ?_ | refine gI (by kernel_rfl) ?_ | refine gN rfl ?_ | refine gN (by omega) ?_ | refine gJ rfl ?_ | refine gK (by omega) ?_ | refine gL (by omega) ?_ | refine gK rfl ?_ | refine gO ?_); conv => whnf))
    (refine ⟨_, _, _, callG [] [] [] rfl rfl rfl (by kernel_rfl) (spL) (by repeat' (first | exact trivial | exact Lent.refl _ | exact Lent.norm _ | apply And.intro)) rfl ⟨rfl, rfl, rfl, rfl, rfl, trivial, rfl, rfl⟩, ?_⟩; conv => whnf)
    repeat (first | refine gA ?_ | refine gB ?_ | refine gC rfl ?_ | refine gD rfl ?_ | ((first | refine gE env hN (by kernel_rfl) ?_ | refine gF ?_ | refine gG ?_ | refine gH fun hlen => ?_ | refine gI (by kernel_rfl) ?_ | refine gN rfl ?_ | refine gN (by omega) ?_ | refine gJ rfl ?_ | refine gK (by omega) ?_ | refine gL (by omega) ?_ | refine gK rfl ?_ | refine gO ?_); conv => whnf))
    (refine ⟨_, _, _, callG [] [] [] rfl rfl rfl (by kernel_rfl) (spA) (by repeat' (first | exact trivial | exact Lent.refl _ | exact Lent.norm _ | apply And.intro)) rfl ⟨rfl, rfl, rfl, rfl, rfl, trivial, rfl, rfl⟩, ?_⟩; conv => whnf)
    repeat (first | refine gA ?_ | refine gB ?_ | refine gC rfl ?_ | refine gD rfl ?_ | ((first | refine gE env hN (by kernel_rfl) ?_ | refine gF ?_ | refine gG ?_ | refine gH fun hlen => ?_ | refine gI (by kernel_rfl) ?_ | refine gN rfl ?_ | refine gN (by omega) ?_ | refine gJ rfl ?_ | refine gK (by omega) ?_ | refine gL (by omega) ?_ | refine gK rfl ?_ | refine gO ?_ | refine gM ?_); conv => whnf))
    exact ret0 rfl rfl rfl
theorem acts_calls {w : World} {v0 v1 v2 v3 v4 v5 v6 : Value} {u0 u1 u2 u3 u4 u5 u6 : V} (r0 : VRel w (fun _ => False) (fun _ _ => none) u0 v0) (r1 : VRel w (fun _ => False) (fun _ _ => none) u1 v1) (r2 : VRel w (fun _ => False) (fun _ _ => none) u2 v2)
    (r3 : VRel w (fun _ => False) (fun _ _ => none) u3 v3) (r4 : VRel w (fun _ => False) (fun _ _ => none) u4 v4) (r5 : VRel w (fun _ => False) (fun _ _ => none) u5 v5) (r6 : VRel w (fun _ => False) (fun _ _ => none) u6 v6)
    (a0 : argShape T 2 22 u0) (a1 : argShape T 9 53 u1) (a2 : argShape T 6 29 u2) (a3 : argShape T 1 3 u3) (a4 : argShape T 1 3 u4) (a5 : argShape T 1 3 u5) (a6 : argShape T 1 3 u6) (hg : GRel w (fun _ => False)) :
    Calls Tryd.prog 9 #[v0, v1, v2, v3, v4, v5, v6] w fun e w' => e = .returned (.bool true) ∧ Go.RowKit.Below w.heap.size w w' := by
  obtain ⟨l, rfl⟩ := arg_ints a0
  obtain ⟨c, rfl⟩ := arg_coll a1
  obtain ⟨x, rfl⟩ := arg_table a2
  obtain ⟨n, rfl, _⟩ := arg_int a3
  obtain ⟨what, rfl, _⟩ := arg_int a4
  obtain ⟨at_, rfl, _⟩ := arg_int a5
  obtain ⟨by_, rfl, _⟩ := arg_int a6
  refine Spec.law (acts_law l c x n what at_ by_) (cargs := [v0, v1, v2, v3, v4, v5, v6]) rfl (fun j u c hj hc => ?_) rfl hg
  match j with
  | 0 => cases hj; cases hc; exact r0
  | 1 => cases hj; cases hc; exact r1
  | 2 => cases hj; cases hc; exact r2
  | 3 => cases hj; cases hc; exact r3
  | 4 => cases hj; cases hc; exact r4
  | 5 => cases hj; cases hc; exact r5
  | 6 => cases hj; cases hc; exact r6
  | j + 7 => cases hj
end Go.Sx.Sp
