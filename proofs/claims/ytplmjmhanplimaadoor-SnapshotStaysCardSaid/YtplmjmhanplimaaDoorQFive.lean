/- What a collection shows at its versions stays. -/
import Derived.Test.YtplmjmhanplimaaDoorQFour
import Derived.Test.YtplmjmhanplimaaDoorSxFour
set_option linter.unusedVariables false
set_option linter.unusedSimpArgs false
namespace Go.Sx.Sp
open Go Go.Sx Go.Proofs
theorem filter_pairwise {R : Item → Item → Prop} {l : List Item} (p : Item → Bool) (h : l.Pairwise R) : (l.filter p).Pairwise R := h.sublist List.filter_sublist
theorem vac_ok {c : Coll} {o : Int} (hc : collB c = true) (ho : c.oldest ≤ o ∧ o ≤ c.version) : vacM c o = (⟨c.version, o, keepM o c.items⟩, 0) ∧ collB ⟨c.version, o, keepM o c.items⟩ = true := by
  obtain ⟨h0, h1, h2⟩ := (collB_iff c).1 hc
  have hl := keepM_len o c.items
  refine ⟨?_, (collB_iff _).2 ⟨⟨by show 0 ≤ o; omega, ho.2, h0.2.2.1, by show (keepM o c.items).length ≤ 1024; omega⟩, fun x hx => h1 x (List.mem_filter.1 hx).1, filter_pairwise _ h2⟩⟩
  have : ¬ (o < c.oldest ∨ c.version < o) := by omega
  simp [vacM, hc, this]
theorem insR_iff (l : List Table) (x y : Table) : y ∈ insR l x ↔ y ∈ l ∨ y = x := by
  unfold insR
  rw [List.mem_append, List.mem_cons]
  constructor
  · rintro (h | h | h)
    · exact .inl (List.mem_of_mem_take h)
    · exact .inr h
    · exact .inl (List.mem_of_mem_drop h)
  · rintro (h | h)
    · rw [← List.take_append_drop (placeR l x.id l.length) l] at h
      rcases List.mem_append.1 h with h | h
      · exact .inl h
      · exact .inr (.inr h)
    · exact .inr (.inl h)
theorem sortT_mem (l : List Table) (y : Table) : y ∈ sortT l ↔ y ∈ l := by
  have h : ∀ (l s : List Table), y ∈ l.foldl insR s ↔ y ∈ s ∨ y ∈ l := by
    intro l
    induction l with
    | nil => simp
    | cons x l ih => intro s; rw [List.foldl_cons, ih, insR_iff, List.mem_cons, or_assoc]
  have := h l []
  simpa [sortT] using this
theorem mem_aliveT {v : Int} {l : List Item} {t : Table} : t ∈ aliveT v l ↔ ∃ x ∈ l, aliveB v x = true ∧ x.tab = t := by
  simp [aliveT, and_assoc]
end Go.Sx.Sp
namespace Go.Sx.Sp
open Go Go.Sx Go.Proofs
attribute [local irreducible] GoodW
end Go.Sx.Sp
namespace Go.Sx.Sp
open Go Go.Sx Go.Proofs
def Asc (l : List Table) : Prop := l.Pairwise fun a b => a.id < b.id
theorem asc_ext : ∀ {a b : List Table}, Asc a → Asc b → (∀ t, t ∈ a ↔ t ∈ b) → a = b
  | [], [], _, _, _ => rfl
  | [], y :: b, _, _, h => by have := (h y).2 (by simp); cases this
  | x :: a, [], _, _, h => by have := (h x).1 (by simp); cases this
  | x :: a, y :: b, ha, hb, h => by
    obtain ⟨ha1, ha2⟩ := List.pairwise_cons.1 ha
    obtain ⟨hb1, hb2⟩ := List.pairwise_cons.1 hb
    have hxy : x = y := by
      rcases List.mem_cons.1 ((h x).1 (by simp)) with e | e
      · exact e
      · rcases List.mem_cons.1 ((h y).2 (by simp)) with e' | e'
        · exact e'.symm
        · have h1 := hb1 x e
          have h2 := ha1 y e'
          omega
    subst hxy
    congr 1
    refine asc_ext ha2 hb2 fun t => ⟨fun ht => ?_, fun ht => ?_⟩
    · rcases List.mem_cons.1 ((h t).1 (List.mem_cons_of_mem _ ht)) with e | e
      · subst e; have := ha1 _ ht; omega
      · exact e
    · rcases List.mem_cons.1 ((h t).2 (List.mem_cons_of_mem _ ht)) with e | e
      · subst e; have := hb1 _ ht; omega
      · exact e
theorem placeR_spec (l : List Table) (id : Int) : ∀ n, n ≤ l.length → (∀ j (h : j < l.length), placeR l id n ≤ j → j < n → id < l[j].id) ∧ (∀ j (h : j < l.length), placeR l id n = j + 1 → l[j].id ≤ id)
  | 0, _ => ⟨fun j _ _ h => by omega, fun j _ h => by simp [placeR] at h⟩
  | n + 1, hn => by
    have hg : l[n]? = some l[n] := List.getElem?_eq_getElem (by omega)
    obtain ⟨h1, h2⟩ := placeR_spec l id n (by omega)
    simp only [placeR, hg]
    split
    · rename_i hlt
      refine ⟨fun j hj hk hjn => ?_, h2⟩
      by_cases e : j = n
      · subst e; exact hlt
      · exact h1 j hj hk (by omega)
    · rename_i hge
      refine ⟨fun j hj hk hjn => by omega, fun j hj hk => ?_⟩
      have : j = n := by omega
      subst this; omega
theorem asc_get {l : List Table} (h : Asc l) {i j : Nat} (hi : i < l.length) (hj : j < l.length) (hij : i < j) : l[i].id < l[j].id := (List.pairwise_iff_getElem.1 h) i j hi hj hij
theorem asc_put {l : List Table} (h : Asc l) {x : Table} {i j : Nat} (hij : i ≤ j) (h1 : ∀ k (hk : k < l.length), k < i → l[k].id < x.id) (h2 : ∀ k (hk : k < l.length), j ≤ k → x.id < l[k].id) : Asc (l.take i ++ x :: l.drop j) := by
  unfold Asc
  rw [List.pairwise_append]
  refine ⟨h.sublist (List.take_sublist _ _), List.pairwise_cons.2 ⟨fun y hy => ?_, h.sublist (List.drop_sublist _ _)⟩, fun a ha b hb => ?_⟩
  · obtain ⟨k, hk, rfl⟩ := List.mem_iff_getElem.1 hy
    simp only [List.length_drop] at hk
    rw [List.getElem_drop]
    exact h2 _ (by omega) (by omega)
  · obtain ⟨k, hk, rfl⟩ := List.mem_iff_getElem.1 ha
    simp only [List.length_take] at hk
    rw [List.getElem_take]
    have h3 := h1 k (by omega) (by omega)
    rcases List.mem_cons.1 hb with rfl | hb
    · exact h3
    · obtain ⟨q, hq, rfl⟩ := List.mem_iff_getElem.1 hb
      simp only [List.length_drop] at hq
      rw [List.getElem_drop]
      have := h2 (j + q) (by omega) (by omega)
      omega
theorem insR_asc {l : List Table} (h : Asc l) {x : Table} (hn : ∀ y ∈ l, y.id ≠ x.id) : Asc (insR l x) := by
  obtain ⟨h1, h2⟩ := placeR_spec l x.id l.length (Nat.le_refl _)
  unfold insR
  refine asc_put h (Nat.le_refl _) (fun k hk hki => ?_) (fun k hk hki => h1 k hk hki hk)
  obtain ⟨p, hp⟩ : ∃ p, placeR l x.id l.length = p + 1 := ⟨placeR l x.id l.length - 1, by omega⟩
  have hle := placeR_le l x.id l.length
  have h3 := h2 p (by omega) hp
  have h4 := hn _ (List.getElem_mem hk)
  by_cases e : k = p
  · subst e; omega
  · have := asc_get h hk (show p < l.length by omega) (by omega)
    omega
theorem sortT_asc {l : List Table} (h : l.Pairwise fun a b => a.id ≠ b.id) : Asc (sortT l) := by
  have key : ∀ (l s : List Table), Asc s → (∀ y ∈ s, ∀ x ∈ l, y.id ≠ x.id) → (l.Pairwise fun a b => a.id ≠ b.id) → Asc (l.foldl insR s) := by
    intro l
    induction l with
    | nil => intro s hs _ _; exact hs
    | cons x l ih =>
      intro s hs hd hp
      obtain ⟨p1, p2⟩ := List.pairwise_cons.1 hp
      rw [List.foldl_cons]
      refine ih _ (insR_asc hs fun y hy => hd y hy x (by simp)) (fun y hy z hz => ?_) p2
      rcases (insR_iff _ _ _).1 hy with hy | rfl
      · exact hd y hy z (List.mem_cons_of_mem _ hz)
      · exact p1 z hz
  exact key l [] List.Pairwise.nil (fun y hy => by cases hy) h
theorem aliveT_ids {c : Coll} (hc : collB c = true) (v : Int) : (aliveT v c.items).Pairwise fun a b => a.id ≠ b.id := by
  obtain ⟨_, _, h2⟩ := (collB_iff c).1 hc
  unfold aliveT
  rw [List.pairwise_map]
  have h3 := List.Pairwise.sublist (List.filter_sublist (l := c.items) (p := aliveB v)) h2
  have h4 : (c.items.filter (aliveB v)).Pairwise fun y x => clashB x y = false ∧ aliveB v x = true ∧ aliveB v y = true := by
    rw [List.pairwise_iff_getElem] at h3 ⊢
    intro i j hi hj hij
    exact ⟨h3 i j hi hj hij, (List.mem_filter.1 (List.getElem_mem hj)).2, (List.mem_filter.1 (List.getElem_mem hi)).2⟩
  refine h4.imp fun {y x} ⟨a, b, d⟩ e => ?_
  rw [clash_iff] at a
  simp only [aliveB, decide_eq_true_eq] at b d
  omega
def Shows (c : Coll) (v : Int) (L : List Table) : Prop := Asc L ∧ ∀ t, t ∈ L ↔ ∃ x ∈ c.items, aliveB v x = true ∧ x.tab = t
theorem Shows.sort {c : Coll} {v : Int} {L : List Table} (h : Shows c v L) (hc : collB c = true) : sortT (aliveT v c.items) = L := by
  refine asc_ext (sortT_asc (aliveT_ids hc v)) h.1 fun t => ?_
  rw [sortT_mem, mem_aliveT, h.2 t]
structure Stay (c : Coll) (H : List (List Table)) (n : Nat) : Prop where
  ok : collB c = true
  len : c.items.length ≤ n
  ver : c.version + 1 = H.length
  top : H.length ≤ n + 1
  shows : ∀ v : Nat, c.oldest ≤ v → (h : v < H.length) → Shows c v H[v]
theorem Stay.zero : Stay Coll.zero [[]] 0 := by
  refine ⟨by decide, by decide, rfl, by decide, fun v h1 h2 => ?_⟩
  have : v = 0 := by simp at h2; omega
  subst this
  refine ⟨List.Pairwise.nil, fun t => ⟨fun h => (by cases h), fun h => ?_⟩⟩
  obtain ⟨x, hx, _⟩ := h
  cases hx
theorem alive_iff {w : Int} {x : Item} : aliveB w x = true ↔ x.from_ ≤ w ∧ (x.until_ = 0 ∨ w < x.until_) := by simp [aliveB]
theorem alive_close {v w : Int} {x : Item} : aliveB w (closeI v x) = true ↔ x.from_ ≤ w ∧ (v = 0 ∨ w < v) := decide_eq_true_iff
theorem closed_mem {l : List Item} {i : Int} {v : Int} {y : Item} (h : y ∈ closeAt l i v) : (y ∈ l ∧ ∀ j : Nat, (j : Int) = i → ∀ hj : j < l.length, y = l[j] → ∃ k, ∃ hk : k < l.length, k ≠ j ∧ y = l[k]) ∨ ∃ j : Nat, ∃ hj : j < l.length, (j : Int) = i ∧ y = closeI v l[j] := by
  obtain ⟨j, hj, rfl⟩ := List.mem_iff_getElem.1 h
  have hl := closeAt_len l i v
  by_cases h0 : 0 ≤ i
  · obtain ⟨n, rfl⟩ : ∃ n : Nat, i = n := ⟨i.toNat, by omega⟩
    rw [closeAt_get hj (by omega)]
    split
    · rename_i e; subst e; exact .inr ⟨n, by omega, rfl, rfl⟩
    · rename_i e
      refine .inl ⟨List.getElem_mem _, fun q hq hql he => ⟨j, by omega, by omega, rfl⟩⟩
  · have e : closeAt l i v = l := by unfold closeAt; rw [if_neg h0]
    refine .inl ⟨?_, fun q hq => by omega⟩
    have : (closeAt l i v)[j] = l[j]'(by omega) := by simp only [e]
    rw [this]; exact List.getElem_mem _
theorem mem_closed {l : List Item} {i : Int} {v : Int} {j : Nat} (hj : j < l.length) : (if (j : Int) = i then closeI v l[j] else l[j]) ∈ closeAt l i v := by
  have hl := closeAt_len l i v
  by_cases h0 : 0 ≤ i
  · obtain ⟨n, rfl⟩ : ∃ n : Nat, i = n := ⟨i.toNat, by omega⟩
    have := closeAt_get (l := l) (i := n) (v := v) (j := j) (by omega) hj
    have hm := List.getElem_mem (l := closeAt l (n : Int) v) (n := j) (by omega)
    rw [this] at hm
    by_cases e : n = j
    · subst e; simpa using hm
    · rw [if_neg e] at hm
      rw [if_neg (by omega)]; exact hm
  · have e : closeAt l i v = l := by unfold closeAt; rw [if_neg h0]
    rw [e, if_neg (by omega)]; exact List.getElem_mem _
theorem closed_same {l : List Item} {i : Int} {v w : Int} {t : Table} (hop : ∀ j : Nat, (j : Int) = i → ∀ hj : j < l.length, l[j].until_ = 0) (hw : w < v) (h0 : 0 ≤ w) :
    (∃ x ∈ closeAt l i v, aliveB w x = true ∧ x.tab = t) ↔ ∃ x ∈ l, aliveB w x = true ∧ x.tab = t := by
  constructor
  · rintro ⟨x, hx, h1, h2⟩
    rcases closed_mem hx with ⟨h3, _⟩ | ⟨j, hj, h3, rfl⟩
    · exact ⟨x, h3, h1, h2⟩
    · refine ⟨l[j], List.getElem_mem _, ?_, h2⟩
      have := hop j h3 hj
      rw [alive_close] at h1
      rw [alive_iff]
      omega
  · rintro ⟨x, hx, h1, h2⟩
    obtain ⟨j, hj, rfl⟩ := List.mem_iff_getElem.1 hx
    refine ⟨_, mem_closed hj, ?_, ?_⟩
    · split
      · rename_i e
        have := hop j e hj
        rw [alive_iff] at h1
        rw [alive_close]
        omega
      · exact h1
    · split
      · exact h2
      · exact h2
theorem closed_now {l : List Item} {i : Int} {v id : Int} {t : Table} (hp : ∀ x ∈ l, properB v x = true) (hv : 0 ≤ v)
    (hcl : ∀ y ∈ closeAt l i (v + 1), ¬ (y.tab.id = id ∧ y.until_ = 0)) (hix : ∀ j : Nat, (j : Int) = i → ∀ hj : j < l.length, l[j].tab.id = id) :
    (∃ x ∈ closeAt l i (v + 1), aliveB (v + 1) x = true ∧ x.tab = t) ↔ (∃ x ∈ l, aliveB v x = true ∧ x.tab = t) ∧ t.id ≠ id := by
  constructor
  · rintro ⟨x, hx, h1, h2⟩
    have h3 := hcl x hx
    have h4 : x.until_ = 0 := by
      rcases closed_mem hx with ⟨h5, _⟩ | ⟨j, hj, h5, rfl⟩
      · obtain ⟨_, h6⟩ := (proper_iff _ _).1 (hp x h5)
        rw [alive_iff] at h1
        omega
      · rw [alive_close] at h1
        omega
    rcases closed_mem hx with ⟨h5, _⟩ | ⟨j, hj, h5, rfl⟩
    · refine ⟨⟨x, h5, ?_, h2⟩, fun e => h3 ⟨by rw [h2]; exact e, h4⟩⟩
      obtain ⟨_, h6⟩ := (proper_iff _ _).1 (hp x h5)
      simp only [aliveB, decide_eq_true_eq]
      omega
    · have h4 : v + 1 = 0 := h4
      omega
  · rintro ⟨⟨x, hx, h1, h2⟩, hne⟩
    obtain ⟨j, hj, rfl⟩ := List.mem_iff_getElem.1 hx
    have e : ¬ ((j : Int) = i) := fun e => hne (by rw [← h2]; exact hix j e hj)
    have hm := mem_closed (l := l) (i := i) (v := v + 1) hj
    rw [if_neg e] at hm
    refine ⟨_, hm, ?_, h2⟩
    obtain ⟨_, h6⟩ := (proper_iff _ _).1 (hp _ hx)
    simp only [aliveB, decide_eq_true_eq] at h1 ⊢
    omega
end Go.Sx.Sp
namespace Go.Sx.Sp
open Go Go.Sx Go.Proofs
theorem ix_open {l : List Item} {id : Int} : ∀ j : Nat, (j : Int) = ixFrom (hasB id) l 0 → ∀ hj : j < l.length, l[j].tab.id = id ∧ l[j].until_ = 0 := by
  intro j hj hjl
  rcases ixFrom_cases (hasB id) l 0 with ⟨h1, _⟩ | ⟨i, hi, h1, h2⟩
  · omega
  · rw [Nat.zero_add] at h1
    have : j = i := by omega
    subst this
    exact has_open h2
theorem ix_closed {l : List Item} {id v : Int} (h1 : ∀ x ∈ l, properB v x = true) (h2 : l.Pairwise (fun y x => clashB x y = false)) (hv : 0 ≤ v) : ∀ y ∈ closeAt l (ixFrom (hasB id) l 0) (v + 1), ¬ (y.tab.id = id ∧ y.until_ = 0) := by
  intro y hy
  have h3 := (closed_new (t := ⟨id, [], []⟩) h1 h2 hv).2.2 y hy
  rw [clash_iff] at h3
  intro ⟨h4, h5⟩
  exact h3 ⟨h4, .inl h5, .inl rfl⟩
theorem put_mem {L : List Table} (hL : Asc L) {t : Table} {i j : Nat} (hij : i ≤ j) (h1 : ∀ k (hk : k < L.length), k < i → L[k].id < t.id) (h2 : ∀ k (hk : k < L.length), j ≤ k → t.id < L[k].id) (h3 : ∀ k (hk : k < L.length), i ≤ k → k < j → L[k].id = t.id) (y : Table) :
    y ∈ L.take i ++ t :: L.drop j ↔ y = t ∨ (y ∈ L ∧ y.id ≠ t.id) := by
  rw [List.mem_append, List.mem_cons]
  constructor
  · rintro (h | h | h)
    · obtain ⟨k, hk, rfl⟩ := List.mem_iff_getElem.1 h
      simp only [List.length_take] at hk
      rw [List.getElem_take]
      have := h1 k (by omega) (by omega)
      exact .inr ⟨List.getElem_mem _, by omega⟩
    · exact .inl h
    · obtain ⟨k, hk, rfl⟩ := List.mem_iff_getElem.1 h
      simp only [List.length_drop] at hk
      rw [List.getElem_drop]
      have := h2 (j + k) (by omega) (by omega)
      exact .inr ⟨List.getElem_mem _, by omega⟩
  · rintro (h | ⟨h, hne⟩)
    · exact .inr (.inl h)
    · obtain ⟨k, hk, rfl⟩ := List.mem_iff_getElem.1 h
      by_cases e1 : k < i
      · refine .inl (List.mem_iff_getElem.2 ⟨k, by simp; omega, by rw [List.getElem_take]⟩)
      · by_cases e2 : k < j
        · exact absurd (h3 k hk (by omega) e2) hne
        · refine .inr (.inr (List.mem_iff_getElem.2 ⟨k - j, by simp; omega, ?_⟩))
          rw [List.getElem_drop]
          simp only [show j + (k - j) = k by omega]
theorem Stay.put {c : Coll} {H : List (List Table)} {n : Nat} (hs : Stay c H n) (hn : n ≤ 100) {t : Table} (ht : validB t = true) (hid : 1 ≤ t.id) {L : List Table} (hL : H[H.length - 1]? = some L) {i j : Nat} (hij : i ≤ j)
    (h1 : ∀ k (hk : k < L.length), k < i → L[k].id < t.id) (h2 : ∀ k (hk : k < L.length), j ≤ k → t.id < L[k].id) (h3 : ∀ k (hk : k < L.length), i ≤ k → k < j → L[k].id = t.id) :
    (putM c t).2 = 0 ∧ Stay (putM c t).1 (H ++ [L.take i ++ t :: L.drop j]) (n + 1) := by
  have hlen := hs.len
  have hver := hs.ver
  have htop := hs.top
  obtain ⟨h0, hp, hpw⟩ := (collB_iff c).1 hs.ok
  obtain ⟨p0, p1, p2, p3, p4⟩ := put_ok hs.ok ht hid (by omega) (by omega)
  refine ⟨p0, p1, ?_, ?_, ?_, fun v hv hvl => ?_⟩
  · rw [p4, List.length_append, closeAt_len]; simp; omega
  · rw [p2]; simp; omega
  · simp; omega
  · rw [p3] at hv
    have hcl := ix_closed (id := t.id) hp hpw (by omega)
    have hix := ix_open (l := c.items) (id := t.id)
    by_cases e : v < H.length
    · rw [List.getElem_append_left e]
      obtain ⟨g1, g2⟩ := hs.shows v hv e
      refine ⟨g1, fun y => ?_⟩
      rw [g2 y, p4]
      rw [← closed_same (i := ixFrom (hasB t.id) c.items 0) (v := c.version + 1) (w := v) (fun j hj hjl => (hix j hj hjl).2) (by omega) (by omega)]
      constructor
      · rintro ⟨x, hx, hr⟩; exact ⟨x, List.mem_append_left _ hx, hr⟩
      · rintro ⟨x, hx, hr⟩
        rcases List.mem_append.1 hx with hx | hx
        · exact ⟨x, hx, hr⟩
        · simp only [List.mem_singleton] at hx
          subst hx
          rw [alive_iff] at hr
          have h9 : c.version + 1 ≤ v := hr.1.1
          omega
    · have hve : v = H.length := by simp at hvl; omega
      subst hve
      rw [List.getElem_append_right (Nat.le_refl _)]
      simp only [Nat.sub_self, List.getElem_cons_zero]
      have hlast : H.length - 1 < H.length := (List.getElem?_eq_some_iff.1 hL).1
      have hLe : H[H.length - 1] = L := (List.getElem?_eq_some_iff.1 hL).2
      obtain ⟨g1, g2⟩ := hs.shows (H.length - 1) (by omega) hlast
      rw [hLe] at g1 g2
      refine ⟨asc_put g1 hij h1 h2, fun y => ?_⟩
      rw [put_mem g1 hij h1 h2 h3, g2 y, p4]
      have hvv : ((H.length - 1 : Nat) : Int) = c.version := by omega
      have hvw : ((H.length : Nat) : Int) = c.version + 1 := by omega
      rw [hvv, hvw]
      have := closed_now (i := ixFrom (hasB t.id) c.items 0) (t := y) hp (by omega) hcl (fun j hj hjl => (hix j hj hjl).1)
      rw [← this]
      constructor
      · rintro (rfl | ⟨x, hx, hr⟩)
        · exact ⟨_, List.mem_append_right _ (List.mem_singleton.2 rfl), alive_iff.2 ⟨Int.le_refl _, .inl rfl⟩, rfl⟩
        · exact ⟨x, List.mem_append_left _ hx, hr⟩
      · rintro ⟨x, hx, hr⟩
        rcases List.mem_append.1 hx with hx | hx
        · exact .inr ⟨x, hx, hr⟩
        · simp only [List.mem_singleton] at hx
          subst hx
          exact .inl hr.2.symm
theorem Stay.drop {c : Coll} {H : List (List Table)} {n : Nat} (hs : Stay c H n) (hn : n ≤ 100) {L : List Table} (hL : H[H.length - 1]? = some L) {i : Nat} (hi : i < L.length) :
    (dropM c L[i].id).2 = 0 ∧ Stay (dropM c L[i].id).1 (H ++ [L.take i ++ L.drop (i + 1)]) (n + 1) := by
  have hlen := hs.len
  have hver := hs.ver
  have htop := hs.top
  obtain ⟨h0, hp, hpw⟩ := (collB_iff c).1 hs.ok
  have hlast : H.length - 1 < H.length := (List.getElem?_eq_some_iff.1 hL).1
  have hLe : H[H.length - 1] = L := (List.getElem?_eq_some_iff.1 hL).2
  obtain ⟨g1, g2⟩ := hs.shows (H.length - 1) (by omega) hlast
  rw [hLe] at g1 g2
  have hvv : ((H.length - 1 : Nat) : Int) = c.version := by omega
  have hvw : ((H.length : Nat) : Int) = c.version + 1 := by omega
  rw [hvv] at g2
  obtain ⟨x0, hx0, ha0, ht0⟩ := (g2 L[i]).1 (List.getElem_mem hi)
  have hid := congrArg Table.id ht0
  generalize hidv : L[i].id = id at *
  have hcl := ix_closed (id := id) hp hpw (by omega)
  have hix := ix_open (l := c.items) (id := id)
  obtain ⟨q, hq, hqi⟩ : ∃ q, ∃ hq : q < c.items.length, ixFrom (hasB id) c.items 0 = (q : Int) := by
    rcases ixFrom_cases (hasB id) c.items 0 with ⟨h5, h6⟩ | ⟨q, hq, h5, h6⟩
    · exfalso
      have := List.any_eq_false.1 h6 x0 hx0
      obtain ⟨_, h7⟩ := (proper_iff _ _).1 (hp x0 hx0)
      simp only [aliveB, decide_eq_true_eq] at ha0
      simp only [hasB, decide_eq_true_eq] at this
      omega
    · rw [Nat.zero_add] at h5; exact ⟨q, hq, h5⟩
  obtain ⟨p0, p1, p2, p3, p4⟩ := drop_ok hs.ok hq hqi (by omega)
  rw [← hqi] at p4
  refine ⟨p0, p1, ?_, ?_, ?_, fun v hv hvl => ?_⟩
  · rw [p4, closeAt_len]; omega
  · rw [p2]; simp; omega
  · simp; omega
  · rw [p3] at hv
    by_cases e : v < H.length
    · rw [List.getElem_append_left e]
      obtain ⟨f1, f2⟩ := hs.shows v hv e
      refine ⟨f1, fun y => ?_⟩
      rw [f2 y, p4]
      exact (closed_same (i := ixFrom (hasB id) c.items 0) (v := c.version + 1) (w := v) (fun j hj hjl => (hix j hj hjl).2) (by omega) (by omega)).symm
    · have hve : v = H.length := by simp at hvl; omega
      subst hve
      rw [List.getElem_append_right (Nat.le_refl _)]
      simp only [Nat.sub_self, List.getElem_cons_zero]
      refine ⟨?_, fun y => ?_⟩
      · unfold Asc
        rw [← List.eraseIdx_eq_take_drop_succ]
        exact List.Pairwise.sublist (List.eraseIdx_sublist _ _) g1
      · rw [p4, hvw, closed_now (t := y) hp (by omega) hcl (fun j hj hjl => (hix j hj hjl).1), ← g2 y, List.mem_append]
        constructor
        · rintro (h | h)
          · obtain ⟨k, hk, rfl⟩ := List.mem_iff_getElem.1 h
            simp only [List.length_take] at hk
            rw [List.getElem_take]
            have := asc_get g1 (show k < L.length by omega) hi (by omega)
            exact ⟨List.getElem_mem _, by omega⟩
          · obtain ⟨k, hk, rfl⟩ := List.mem_iff_getElem.1 h
            simp only [List.length_drop] at hk
            rw [List.getElem_drop]
            have := asc_get g1 hi (show i + 1 + k < L.length by omega) (by omega)
            exact ⟨List.getElem_mem _, by omega⟩
        · rintro ⟨h, hne⟩
          obtain ⟨k, hk, rfl⟩ := List.mem_iff_getElem.1 h
          by_cases e1 : k < i
          · exact .inl (List.mem_iff_getElem.2 ⟨k, by simp; omega, by rw [List.getElem_take]⟩)
          · by_cases e2 : k = i
            · subst e2; exact absurd hidv hne
            · refine .inr (List.mem_iff_getElem.2 ⟨k - (i + 1), by simp; omega, ?_⟩)
              rw [List.getElem_drop]
              simp only [show i + 1 + (k - (i + 1)) = k by omega]
theorem Stay.vac {c : Coll} {H : List (List Table)} {n : Nat} (hs : Stay c H n) {o : Int} (ho : c.oldest ≤ o ∧ o ≤ c.version) :
    vacM c o = (⟨c.version, o, keepM o c.items⟩, 0) ∧ Stay ⟨c.version, o, keepM o c.items⟩ H (n + 1) := by
  obtain ⟨v1, v2⟩ := vac_ok hs.ok ho
  have hlen := hs.len
  have htop := hs.top
  have hk := keepM_len o c.items
  obtain ⟨h0, hp, hpw⟩ := (collB_iff c).1 hs.ok
  refine ⟨v1, v2, by show (keepM o c.items).length ≤ n + 1; omega, hs.ver, by omega, fun v hv hvl => ?_⟩
  have hv : o ≤ v := hv
  obtain ⟨g1, g2⟩ := hs.shows v (by omega) hvl
  refine ⟨g1, fun t => ?_⟩
  rw [g2 t]
  constructor
  · rintro ⟨x, hx, h1, h2⟩
    refine ⟨x, List.mem_filter.2 ⟨hx, ?_⟩, h1, h2⟩
    simp only [aliveB, decide_eq_true_eq] at h1
    simp only [oldB, Bool.not_eq_true', decide_eq_false_iff_not]
    omega
  · rintro ⟨x, hx, h1, h2⟩
    exact ⟨x, (List.mem_filter.1 hx).1, h1, h2⟩
theorem Stay.mono {c : Coll} {H : List (List Table)} {n m : Nat} (hs : Stay c H n) (h : n ≤ m) : Stay c H m := ⟨hs.ok, by have := hs.len; omega, hs.ver, by have := hs.top; omega, hs.shows⟩
end Go.Sx.Sp
namespace Go.Sx.Sp
open Go Go.Sx Go.Proofs Go.RowKit
theorem arg_ints {n : Nat} {u : V} (hs : argShape T (n + 2) 22 u) : ∃ l : List Int, u = .sl (intRows .i64 l) false := by
  obtain ⟨rows, hr, _, h⟩ := shape_sl (T := T) (t := 22) rfl (argShape_one (T := T) (t := 22) rfl rfl hs)
  obtain ⟨l, rfl, _⟩ := rows_map (f := fun x : Int => [V.int .i64 x]) (p := fun _ => True) (rows := rows) fun r hr => by
    obtain ⟨x, rfl, _⟩ := shape_int (T := T) (t := 3) rfl (h r hr)
    exact ⟨x, rfl, trivial⟩
  cases hr
  exact ⟨l, rfl⟩
end Go.Sx.Sp
namespace Go.Sx.Sp
open Go Go.Sx Go.Proofs
attribute [local irreducible] GoodW
def histRows (H : List (List Table)) : List (List V) := H.map fun L => [V.sl (tblRows L) false]
theorem histRows_len (H : List (List Table)) : (histRows H).length = H.length := by simp [histRows]
theorem histRows_get {H : List (List Table)} {i : Nat} {L : List Table} (h : H[i]? = some L) : (histRows H)[i]? = some [.sl (tblRows L) false] := by simp [histRows, h]
theorem histRows_pure (H : List (List Table)) : ∀ r ∈ histRows H, ∀ v ∈ r, v.sites = [] := by
  intro r hr v hv
  obtain ⟨L, _, rfl⟩ := List.mem_map.1 hr
  simp at hv; subst hv; simp [V.sites]
theorem histRows_one (H : List (List Table)) : ∀ r ∈ histRows H, ∀ v ∈ r, v.one = true := by
  intro r hr v hv
  obtain ⟨L, _, rfl⟩ := List.mem_map.1 hr
  simp at hv; subst hv; rfl
theorem histRows_ren {ρ : Nat → Option Nat} (H : List (List Table)) : (histRows H).map (renL ρ) = histRows H := ren_rows (histRows_pure H)
structure Step (l : List Int) (q : Nat) (c : Coll) (H : List (List Table)) (k : Nat) : Prop where
  stay : Stay c H k
  pos : q ≤ l.length
  le : k ≤ 9
  big : 1 ≤ H.length
theorem drop_none {i : Nat} {L : List Table} (h : i + 1 = L.length) : List.drop ((i : Int) + 1).toNat (List.take ((tblRows L).length : Int).toNat (tblRows L)) = [] := by
  have := tblRows_len L
  simp; omega
theorem drop_some {i : Nat} {L : List Table} (h : i + 1 < L.length) : List.drop ((i : Int) + 1).toNat (List.take ((tblRows L).length : Int).toNat (tblRows L)) ≠ [] := by
  have := tblRows_len L
  intro e
  have := congrArg List.length e
  simp at this; omega
theorem tblRows_take (L : List Table) (i : Nat) : List.drop (Int.toNat 0) (List.take (i : Int).toNat (tblRows L)) = tblRows (L.take i) := by simp [tblRows, List.map_take]
theorem tblRows_drop (L : List Table) (i : Nat) : List.drop ((i : Int) + 1).toNat (List.take ((tblRows L).length : Int).toNat (tblRows L)) = tblRows (L.drop (i + 1)) := by
  rw [show ((i : Int) + 1).toNat = i + 1 by omega, List.take_of_length_le (by simp)]
  simp [tblRows, List.map_drop]
theorem tblRows_drop0 (L : List Table) (i : Nat) : List.drop (i : Int).toNat (List.take ((tblRows L).length : Int).toNat (tblRows L)) = tblRows (L.drop i) := by
  rw [show (i : Int).toNat = i by omega, List.take_of_length_le (by simp)]
  simp [tblRows, List.map_drop]
theorem tblRows_app (a b : List Table) : tblRows a ++ tblRows b = tblRows (a ++ b) := by simp [tblRows]
theorem histRows_app (H : List (List Table)) (L : List Table) : histRows H ++ [[V.sl (tblRows L) false]] = histRows (H ++ [L]) := by simp [histRows]
set_option maxHeartbeats 16000000 in
theorem stays_law (l : List Int) : Spec Tryd.prog 10 [.sl (intRows .i64 l) false] [] (.bool true) [] := by
  have hl := intRows_len .i64 l
  have spL := light_spec l
  have spA := awake_spec
  refine Spec.body env Tryd.func10 rfl (by kernel_rfl) (Nat.le_of_ble_eq_true (by kernel_rfl)) (keysSub rfl) fun Γ hN hK => ?_; have hML : maxLen = 9223372036854775807 := by unfold maxLen; rfl
  by_cases hll : l.length ≤ 500
  · rw [decide_eq_true hll] at spL
    repeat (first | refine gA ?_ | refine gB ?_ | refine gC rfl ?_ | refine gD rfl ?_ | ((first | refine gE env hN (by kernel_rfl) ?_ | refine gF ?_ | refine gG ?_ | refine gH fun hlen => ?_ | refine gI (by kernel_rfl) ?_ | refine And.intro rfl ?_ | refine And.intro (by omega) ?_ | refine gJ rfl ?_ | refine gK (by omega) ?_ | refine gL (by omega) ?_ | refine gK rfl ?_ | refine Or.inr ?_); conv => whnf))
    (refine ⟨_, _, _, callG [] [] [] rfl rfl rfl (by kernel_rfl) (spL) (by repeat' (first | exact trivial | exact Lent.refl _ | exact Lent.norm _ | apply And.intro)) rfl ⟨rfl, rfl, rfl, rfl, rfl, trivial, rfl, rfl⟩, ?_⟩; conv => whnf)
    repeat (first | refine gA ?_ | refine gB ?_ | refine gC rfl ?_ | refine gD rfl ?_ | ((first | refine gE env hN (by kernel_rfl) ?_ | refine gF ?_ | refine gG ?_ | refine gH fun hlen => ?_ | refine gI (by kernel_rfl) ?_ | refine And.intro rfl ?_ | refine And.intro (by omega) ?_ | refine gJ rfl ?_ | refine gK (by omega) ?_ | refine gL (by omega) ?_ | refine gK rfl ?_ | refine Or.inr ?_); conv => whnf))
    (refine ⟨_, _, _, callG [] [(5, 28)] [] rfl rfl rfl (by kernel_rfl) (roll_spec l) (by repeat' (first | exact trivial | exact Lent.refl _ | exact Lent.norm _ | apply And.intro)) rfl ⟨rfl, rfl, rfl, rfl, rfl, by repeat' (first | exact trivial | rfl | apply And.intro), rfl, rfl⟩, ?_⟩; conv => whnf)
    repeat (first | refine gA ?_ | refine gB ?_ | refine gC rfl ?_ | refine gD rfl ?_ | ((first | refine gE env hN (by kernel_rfl) ?_ | refine gF ?_ | refine gG ?_ | refine gH fun hlen => ?_ | refine gI (by kernel_rfl) ?_ | refine And.intro rfl ?_ | refine And.intro (by omega) ?_ | refine gJ rfl ?_ | refine gK (by omega) ?_ | refine gL (by omega) ?_ | refine gK rfl ?_); conv => whnf))
    refine Or.inl ?_
    conv => whnf
    repeat ((first | refine gI (by kernel_rfl) ?_ | refine gH fun hlen => ?_ | refine And.intro rfl ?_ | refine And.intro (by omega) ?_ | refine gJ rfl ?_ | refine gK (by omega) ?_ | refine gL (by omega) ?_ | refine gK rfl ?_ | refine Or.inr ?_); conv => whnf)
    refine gA ?_
    refine W.leG (mp := [(28, 28), (4, 4), (29, 29)]) (bo := []) (st' := ⟨[(3, .bp 28 0), (4, .bp 4 0), (5, .osl 29 0 0 1 1)], [(28, [diceB l 0]), (4, [.rows 3 [Coll.zero.row] none]), (29, [.rows 1 (histRows [[]]) none])], [28, 4, 29]⟩)
      (LeG.mk' rfl rfl rfl (by repeat' (first | exact trivial | exact ⟨_, .refl _, rfl⟩ | apply And.intro)) (.cons 28 rfl rfl (.refl _) rfl (.cons 4 (b1 := .rows 3 [Coll.zero.row] none) rfl rfl (.rows _ _ _ ⟨⟨⟨.refl _, rfl⟩, ⟨.refl _, rfl⟩, ⟨.norm _, rfl⟩, trivial⟩, trivial⟩) rfl (.cons 29 (b1 := .rows 1 (histRows [[]]) none) rfl rfl (.rows _ _ _ ⟨⟨⟨.norm _, rfl⟩, trivial⟩, trivial⟩) rfl .nil))) rfl rfl (by rw [hK]; rfl)) ?_
    repeat (first | refine gA ?_ | refine gB ?_ | refine gC rfl ?_ | refine gD rfl ?_ | ((first | refine gE env hN (by kernel_rfl) ?_ | refine gF ?_ | refine gG ?_ | refine gH fun hlen => ?_ | refine gI (by kernel_rfl) ?_ | refine And.intro rfl ?_ | refine And.intro (by omega) ?_ | refine gJ rfl ?_ | refine gK (by omega) ?_ | refine gL (by omega) ?_ | refine gK rfl ?_ | refine Or.inr ?_); conv => whnf))
    refine W.loopR (fun n st => ∃ (k q : Nat) (c : Coll) (H : List (List Table)), Step l q c H k ∧ n = 9 - k ∧ st = ⟨[(3, .bp 28 0), (4, .bp 4 0), (5, .osl 29 0 0 (H).length (H).length), (6, .int .i64 k)], [(28, [diceB l q]), (4, [.rows 3 [(c).row] none]), (29, [.rows 1 (histRows (H)) (some [])])], [28, 4, 29]⟩)
      9 _ ⟨0, 0, Coll.zero, [[]], ⟨Stay.zero, Nat.zero_le _, by omega, by decide⟩, rfl, rfl⟩ (.le (mp := [(28, 28), (4, 4), (29, 29)]) (bo := []) (LeG.mk' rfl rfl rfl (by repeat' (first | exact trivial | exact ⟨_, .refl _, rfl⟩ | apply And.intro)) (.cons 28 rfl rfl (.refl _) rfl (.cons 4 rfl rfl (.refl _) rfl (.cons 29 (b1 := .rows 1 (histRows [[]]) (some [])) rfl rfl (.pure _ _ _ (histRows_pure _)) rfl .nil))) rfl rfl (by rw [hK]; rfl))) ?_
    rintro n st ⟨k, q, c, H, ⟨hs, hq, hk, hH⟩, rfl, rfl⟩
    have hHl := histRows_len H
    have htop := hs.top
    have hver := hs.ver
    have hitl := hs.len
    obtain ⟨hc0, _, _⟩ := (collB_iff c).1 hs.ok
    repeat (first | refine gA ?_ | refine gB ?_ | refine gC rfl ?_ | refine gD rfl ?_ | ((first | refine gE env hN (by kernel_rfl) ?_ | refine gF ?_ | refine gG ?_ | refine gH fun hlen => ?_ | refine gI (by kernel_rfl) ?_ | refine And.intro rfl ?_ | refine And.intro (by omega) ?_ | refine gJ rfl ?_ | refine gK (by omega) ?_ | refine gL (by omega) ?_ | refine gK rfl ?_ | refine Or.inr ?_); conv => whnf))
    refine boolRes_split (fun hb => ?_) (fun hb => ?_) <;> conv => whnf
    · obtain ⟨L, hL⟩ : ∃ L, H[H.length - 1]? = some L := ⟨_, List.getElem?_eq_getElem (by omega)⟩
      have hgL := histRows_get hL
      have hSh : Shows c c.version L := by
        have h1 := hs.shows (H.length - 1) (by omega) (by omega)
        rw [(List.getElem?_eq_some_iff.1 hL).2, show ((H.length - 1 : Nat) : Int) = c.version by omega] at h1
        exact h1
      have hLn : L.length ≤ 9 := by
        have h1 := hSh.sort hs.ok
        have h2 := sortT_len (aliveT c.version c.items)
        have h3 := aliveT_len c.version c.items
        rw [h1] at h2; omega
      have hLr := tblRows_len L
      have hq1 := nextP_le hq
      have hq2 := nextP_le hq1
      have sp6 := next_spec l q 6 (by omega) hq
      repeat (first | refine gA ?_ | refine gB ?_ | refine gC rfl ?_ | refine gD rfl ?_ | ((first | refine gE env hN (by kernel_rfl) ?_ | refine gF ?_ | refine gG ?_ | refine gH fun hlen => ?_ | refine gI (by kernel_rfl) ?_ | refine And.intro rfl ?_ | refine And.intro (by omega) ?_ | refine gJ rfl ?_ | refine gK (by omega) ?_ | refine gL (by omega) ?_ | refine gK rfl ?_ | refine Or.inr ?_); conv => whnf))
      refine rowAt_of (by rw [show 0 + ((H.length : Int) - 1).toNat = H.length - 1 by omega]; exact hgL) ?_
      conv => whnf
      repeat (first | refine gA ?_ | refine gB ?_ | refine gC rfl ?_ | refine gD rfl ?_ | ((first | refine gE env hN (by kernel_rfl) ?_ | refine gF ?_ | refine gG ?_ | refine gH fun hlen => ?_ | refine gI (by kernel_rfl) ?_ | refine And.intro rfl ?_ | refine And.intro (by omega) ?_ | refine gJ rfl ?_ | refine gK (by omega) ?_ | refine gL (by omega) ?_ | refine gK rfl ?_ | refine Or.inr ?_); conv => whnf))
      refine ⟨tblRows_sz _, fitN (n := (tblRows L).length) (b := 48) (by omega) (by omega), Or.inr ⟨⟨rfl, rfl, rfl, pure_tbls _⟩, ?_⟩⟩
      conv => whnf
      repeat ((first | refine gI (by kernel_rfl) ?_ | refine gH fun hlen => ?_ | refine And.intro rfl ?_ | refine And.intro (by omega) ?_ | refine gJ rfl ?_ | refine gK (by omega) ?_ | refine gL (by omega) ?_ | refine gK rfl ?_ | refine Or.inr ?_); conv => whnf)
      refine W.leG (mp := [(28, 28), (4, 4), (29, 29)]) (bo := []) (st' := ⟨[(3, .bp 28 0), (4, .bp 4 0), (5, .osl 29 0 0 H.length H.length), (6, .int .i64 k), (7, .sl (tblRows L) false)], [(28, [diceB l q]), (4, [.rows 3 [c.row] none]), (29, [.rows 1 (histRows H) (some [])])], [28, 4, 29]⟩)
        (LeG.mk' rfl rfl rfl (by repeat' (first | exact trivial | exact ⟨_, .refl _, rfl⟩ | apply And.intro)) (.cons 28 rfl rfl (.refl _) rfl (.cons 4 rfl rfl (.refl _) rfl (.cons 29 rfl rfl (.refl _) rfl .nil))) rfl rfl (by rw [hK]; rfl)) ?_
      refine W.cut (fun s => ∃ (q' : Nat) (c' : Coll) (H' : List (List Table)), Step l q' c' H' (k + 1) ∧ s = ⟨[(3, .bp 28 0), (4, .bp 4 0), (5, .osl 29 0 0 (H').length (H').length), (6, .int .i64 k)], [(28, [diceB l q']), (4, [.rows 3 [(c').row] none]), (29, [.rows 1 (histRows (H')) (some [])])], [28, 4, 29]⟩) ?_ ?_
      · repeat (first | refine gA ?_ | refine gB ?_ | refine gC rfl ?_ | refine gD rfl ?_ | ((first | refine gE env hN (by kernel_rfl) ?_ | refine gF ?_ | refine gG ?_ | refine gH fun hlen => ?_ | refine gI (by kernel_rfl) ?_ | refine And.intro rfl ?_ | refine And.intro (by omega) ?_ | refine gJ rfl ?_ | refine gK (by omega) ?_ | refine gL (by omega) ?_ | refine gK rfl ?_ | refine Or.inr ?_); conv => whnf))
        (refine ⟨_, _, _, callG [(0, 28)] [] [] rfl rfl rfl (by kernel_rfl) (sp6) (by repeat' (first | exact trivial | exact Lent.refl _ | exact Lent.norm _ | exact Lent.whole rfl rfl (by first | rfl | exact List.length_append.symm | exact hlenR | simp) rfl (by first | exact .inl rfl | exact .inr rfl) | apply And.intro)) rfl ⟨rfl, rfl, rfl, rfl, rfl, by repeat' (first | exact trivial | rfl | apply And.intro), rfl, rfl⟩, ?_⟩; conv => whnf)
        repeat (first | refine gA ?_ | refine gB ?_ | refine gC rfl ?_ | refine gD rfl ?_ | ((first | refine gE env hN (by kernel_rfl) ?_ | refine gF ?_ | refine gG ?_ | refine gH fun hlen => ?_ | refine gI (by kernel_rfl) ?_ | refine And.intro rfl ?_ | refine And.intro (by omega) ?_ | refine gJ rfl ?_ | refine gK (by omega) ?_ | refine gL (by omega) ?_ | refine gK rfl ?_ | refine Or.inr ?_); conv => whnf))
        refine boolRes_split (fun hb => ?_) (fun hb => ?_) <;> conv => whnf
        · repeat (first | refine gA ?_ | refine gB ?_ | refine gC rfl ?_ | refine gD rfl ?_ | ((first | refine gE env hN (by kernel_rfl) ?_ | refine gF ?_ | refine gG ?_ | refine gH fun hlen => ?_ | refine gI (by kernel_rfl) ?_ | refine And.intro rfl ?_ | refine And.intro (by omega) ?_ | refine gJ rfl ?_ | refine gK (by omega) ?_ | refine gL (by omega) ?_ | refine gK rfl ?_ | refine Or.inr ?_); conv => whnf))
          refine boolRes_split (fun hb => ?_) (fun hb => ?_) <;> conv => whnf
          · have hpos : 0 < L.length := by omega
            have sp7 := next_spec l (nextP l q) ((tblRows L).length : Nat) (by omega) hq1
            have hr7 := nextV_range l (nextP l q) (n := ((tblRows L).length : Nat)) (by omega)
            obtain ⟨i, hi⟩ : ∃ i : Nat, nextV l (nextP l q) ((tblRows L).length : Nat) = i := ⟨(nextV l (nextP l q) ((tblRows L).length : Nat)).toNat, by omega⟩
            rw [hi] at sp7 hr7
            have hiL : i < L.length := by omega
            have hgi := tblRows_get hiL
            obtain ⟨d1, d2⟩ := hs.drop (by omega) hL hiL
            have spD := drop_spec c L[i].id
            rw [show dropM c L[i].id = ((dropM c L[i].id).1, 0) by rw [← d1]] at spD
            generalize (dropM c L[i].id).1 = c1 at *
            repeat (first | refine gA ?_ | refine gB ?_ | refine gC rfl ?_ | refine gD rfl ?_ | ((first | refine gE env hN (by kernel_rfl) ?_ | refine gF ?_ | refine gG ?_ | refine gH fun hlen => ?_ | refine gI (by kernel_rfl) ?_ | refine And.intro rfl ?_ | refine And.intro (by omega) ?_ | refine gJ rfl ?_ | refine gK (by omega) ?_ | refine gL (by omega) ?_ | refine gK rfl ?_ | refine Or.inr ?_); conv => whnf))
            (refine ⟨_, _, _, callG [(0, 28)] [] [] rfl rfl rfl (by kernel_rfl) (sp7) (by repeat' (first | exact trivial | exact Lent.refl _ | exact Lent.norm _ | exact Lent.whole rfl rfl (by first | rfl | exact List.length_append.symm | exact hlenR | simp) rfl (by first | exact .inl rfl | exact .inr rfl) | apply And.intro)) rfl ⟨rfl, rfl, rfl, rfl, rfl, by repeat' (first | exact trivial | rfl | apply And.intro), rfl, rfl⟩, ?_⟩; conv => whnf)
            repeat (first | refine gA ?_ | refine gB ?_ | refine gC rfl ?_ | refine gD rfl ?_ | ((first | refine gE env hN (by kernel_rfl) ?_ | refine gF ?_ | refine gG ?_ | refine gH fun hlen => ?_ | refine gI (by kernel_rfl) ?_ | refine And.intro rfl ?_ | refine And.intro (by omega) ?_ | refine gJ rfl ?_ | refine gK (by omega) ?_ | refine gL (by omega) ?_ | refine gK rfl ?_ | refine Or.inr ?_); conv => whnf))
            refine rowAt_of (by simpa using hgi) ?_
            conv => whnf
            repeat (first | refine gA ?_ | refine gB ?_ | refine gC rfl ?_ | refine gD rfl ?_ | ((first | refine gE env hN (by kernel_rfl) ?_ | refine gF ?_ | refine gG ?_ | refine gH fun hlen => ?_ | refine gI (by kernel_rfl) ?_ | refine And.intro rfl ?_ | refine And.intro (by omega) ?_ | refine gJ rfl ?_ | refine gK (by omega) ?_ | refine gL (by omega) ?_ | refine gK rfl ?_ | refine Or.inr ?_); conv => whnf))
            (refine ⟨_, _, _, callG [] [] [] rfl rfl rfl (by kernel_rfl) (spD) (by repeat' (first | exact trivial | exact Lent.refl _ | exact Lent.norm _ | apply And.intro)) rfl ⟨rfl, rfl, rfl, rfl, rfl, trivial, rfl, rfl⟩, ?_⟩; conv => whnf)
            repeat (first | refine gA ?_ | refine gB ?_ | refine gC rfl ?_ | refine gD rfl ?_ | ((first | refine gE env hN (by kernel_rfl) ?_ | refine gF ?_ | refine gG ?_ | refine gH fun hlen => ?_ | refine gI (by kernel_rfl) ?_ | refine And.intro rfl ?_ | refine And.intro (by omega) ?_ | refine gJ rfl ?_ | refine gK (by omega) ?_ | refine gL (by omega) ?_ | refine gK rfl ?_ | refine Or.inr ?_); conv => whnf))
            refine ⟨tblRows_sz _, ?_⟩
            conv => whnf
            repeat (first | refine gA ?_ | refine gB ?_ | refine gC rfl ?_ | refine gD rfl ?_ | ((first | refine gE env hN (by kernel_rfl) ?_ | refine gF ?_ | refine gG ?_ | refine gH fun hlen => ?_ | refine gI (by kernel_rfl) ?_ | refine And.intro rfl ?_ | refine And.intro (by omega) ?_ | refine gJ rfl ?_ | refine gK (by omega) ?_ | refine gL (by omega) ?_ | refine gK rfl ?_ | refine Or.inr ?_); conv => whnf))
            refine ⟨tblRows_sz _, ?_⟩
            conv => whnf
            by_cases hlast : i + 1 = L.length
            · have hX : (V.sl (List.drop (Int.toNat 0) (List.take (i : Int).toNat (tblRows L))) true).norm = V.sl (tblRows (L.take i ++ L.drop (i + 1))) false := by
                rw [tblRows_take, ← tblRows_app, List.drop_eq_nil_of_le (by omega)]; simp [V.norm, tblRows]
              repeat (first | refine gA ?_ | refine gB ?_ | refine gC rfl ?_ | refine gD rfl ?_ | ((first | refine gE env hN (by kernel_rfl) ?_ | refine gF ?_ | refine gG ?_ | refine gH fun hlen => ?_ | refine gI (by kernel_rfl) ?_ | refine And.intro rfl ?_ | refine And.intro (by omega) ?_ | refine gJ rfl ?_ | refine gK (by omega) ?_ | refine gL (by omega) ?_ | refine gK rfl ?_); conv => whnf))
              refine Or.inl ⟨⟨drop_none hlast, rowsSz_sub (tblRows_sz _)⟩, ?_⟩
              conv => whnf
              repeat (first | refine gA ?_ | refine gB ?_ | refine gC rfl ?_ | refine gD rfl ?_ | ((first | refine gE env hN (by kernel_rfl) ?_ | refine gF ?_ | refine gG ?_ | refine gH fun hlen => ?_ | refine gI (by kernel_rfl) ?_ | refine And.intro rfl ?_ | refine And.intro (by omega) ?_ | refine gJ rfl ?_ | refine gK (by omega) ?_ | refine gL (by omega) ?_ | refine gK rfl ?_ | refine Or.inr ?_); conv => whnf))
              refine ⟨⟨rowsSz_cons rfl rowsSz_nil, hHl.symm⟩, fitN (n := H.length + 1) (b := 24) (by omega) (by omega), .inl ⟨rfl, rfl, ?_⟩⟩
              conv => whnf
              repeat (first | refine gA ?_ | refine gB ?_ | refine gC rfl ?_ | refine gD rfl ?_ | ((first | refine gE env hN (by kernel_rfl) ?_ | refine gF ?_ | refine gG ?_ | refine gH fun hlen => ?_ | refine gI (by kernel_rfl) ?_ | refine And.intro rfl ?_ | refine And.intro (by omega) ?_ | refine gJ rfl ?_ | refine gK (by omega) ?_ | refine gL (by omega) ?_ | refine gK rfl ?_ | refine Or.inr ?_); conv => whnf))
              refine ⟨_, ⟨nextP l (nextP l q), c1, H ++ [L.take i ++ L.drop (i + 1)], ⟨d2, hq2, by omega, by simp⟩, rfl⟩, .trans (.unks 29 rfl) (.trans (.le (s' := ⟨[(3, .bp 28 0), (4, .bp 4 0), (5, .osl 29 0 0 (H ++ [L.take i ++ L.drop (i + 1)]).length (H ++ [L.take i ++ L.drop (i + 1)]).length), (6, .int .i64 k)], [(28, [diceB l (nextP l (nextP l q))]), (4, [.rows 3 [(c1).row] none]), (29, [.rows 1 (histRows (H ++ [L.take i ++ L.drop (i + 1)])) none])], [28, 4, 29]⟩) (mp := [(28, 28), (4, 4), (29, 29)]) (bo := []) (LeG.mk' rfl rfl rfl ⟨⟨_, .refl _, rfl⟩, ⟨_, .refl _, rfl⟩, ⟨_, .refl _, congrArg (fun n => V.osl 29 0 0 n n) (by rw [List.length_append]; rfl)⟩, ⟨_, .refl _, rfl⟩, trivial⟩ (.cons 28 rfl rfl (.refl _) rfl (.cons 4 rfl rfl (.refl _) rfl (.cons 29 (b1 := .rows 1 (histRows H ++ [[V.sl (tblRows (L.take i ++ L.drop (i + 1))) false]]) none) rfl rfl (.rows _ _ _ (RowsF.app (RowsF.same (histRows_one H)) ⟨⟨⟨hX ▸ Lent.norm _, rfl⟩, trivial⟩, trivial⟩)) (by rw [histRows_app]; exact congrArg (fun r => [Blk.rows 1 r none]) (histRows_ren _).symm) .nil))) rfl rfl (by rw [hK]; rfl))) (.le (mp := [(28, 28), (4, 4), (29, 29)]) (bo := []) (LeG.mk' rfl rfl rfl (by repeat' (first | exact trivial | exact ⟨_, .refl _, rfl⟩ | apply And.intro)) (.cons 28 rfl rfl (.refl _) rfl (.cons 4 rfl rfl (.refl _) rfl (.cons 29 rfl rfl (.pure _ _ _ (histRows_pure _)) rfl .nil))) rfl rfl (by rw [hK]; rfl))))⟩
            · repeat (first | refine gA ?_ | refine gB ?_ | refine gC rfl ?_ | refine gD rfl ?_ | ((first | refine gE env hN (by kernel_rfl) ?_ | refine gF ?_ | refine gG ?_ | refine gH fun hlen => ?_ | refine gI (by kernel_rfl) ?_ | refine And.intro rfl ?_ | refine And.intro (by omega) ?_ | refine gJ rfl ?_ | refine gK (by omega) ?_ | refine gL (by omega) ?_ | refine gK rfl ?_ | refine Or.inr ?_); conv => whnf))
              refine ⟨⟨rowsSz_sub (tblRows_sz _), rowsSz_sub (tblRows_sz _), fun h => absurd h (drop_some (by omega))⟩, fitN (n := (List.drop (Int.toNat 0) (List.take (i : Int).toNat (tblRows L))).length + (List.drop ((i : Int) + 1).toNat (List.take ((tblRows L).length : Int).toNat (tblRows L))).length) (b := 48) (by simp; omega) (by omega), Or.inr ⟨⟨rfl, List.length_append.symm, List.length_append.symm, ?_⟩, ?_⟩⟩
              · rw [tblRows_take, tblRows_drop, tblRows_app]; exact pure_tbls _
              conv => whnf
              repeat (first | refine gA ?_ | refine gB ?_ | refine gC rfl ?_ | refine gD rfl ?_ | ((first | refine gE env hN (by kernel_rfl) ?_ | refine gF ?_ | refine gG ?_ | refine gH fun hlen => ?_ | refine gI (by kernel_rfl) ?_ | refine And.intro rfl ?_ | refine And.intro (by omega) ?_ | refine gJ rfl ?_ | refine gK (by omega) ?_ | refine gL (by omega) ?_ | refine gK rfl ?_ | refine Or.inr ?_); conv => whnf))
              refine ⟨⟨rowsSz_cons rfl rowsSz_nil, hHl.symm⟩, fitN (n := H.length + 1) (b := 24) (by omega) (by omega), .inl ⟨rfl, rfl, ?_⟩⟩
              conv => whnf
              repeat (first | refine gA ?_ | refine gB ?_ | refine gC rfl ?_ | refine gD rfl ?_ | ((first | refine gE env hN (by kernel_rfl) ?_ | refine gF ?_ | refine gG ?_ | refine gH fun hlen => ?_ | refine gI (by kernel_rfl) ?_ | refine And.intro rfl ?_ | refine And.intro (by omega) ?_ | refine gJ rfl ?_ | refine gK (by omega) ?_ | refine gL (by omega) ?_ | refine gK rfl ?_ | refine Or.inr ?_); conv => whnf))
              have hX : V.sl (List.drop (Int.toNat 0) (List.take (i : Int).toNat (tblRows L)) ++ List.drop ((i : Int) + 1).toNat (List.take ((tblRows L).length : Int).toNat (tblRows L))) false = V.sl (tblRows (L.take i ++ L.drop (i + 1))) false := by
                rw [tblRows_take, tblRows_drop, tblRows_app]
              refine ⟨_, ⟨nextP l (nextP l q), c1, H ++ [L.take i ++ L.drop (i + 1)], ⟨d2, hq2, by omega, by simp⟩, rfl⟩, .trans (.unks 29 rfl) (.trans (.le (s' := ⟨[(3, .bp 28 0), (4, .bp 4 0), (5, .osl 29 0 0 (H ++ [L.take i ++ L.drop (i + 1)]).length (H ++ [L.take i ++ L.drop (i + 1)]).length), (6, .int .i64 k)], [(28, [diceB l (nextP l (nextP l q))]), (4, [.rows 3 [(c1).row] none]), (29, [.rows 1 (histRows (H ++ [L.take i ++ L.drop (i + 1)])) none])], [28, 4, 29]⟩) (mp := [(28, 28), (4, 4), (29, 29)]) (bo := []) (LeG.mk' rfl rfl rfl ⟨⟨_, .refl _, rfl⟩, ⟨_, .refl _, rfl⟩, ⟨_, .refl _, congrArg (fun n => V.osl 29 0 0 n n) (by rw [List.length_append]; rfl)⟩, ⟨_, .refl _, rfl⟩, trivial⟩ (.cons 28 rfl rfl (.refl _) rfl (.cons 4 rfl rfl (.refl _) rfl (.cons 29 (b1 := .rows 1 (histRows H ++ [[V.sl (tblRows (L.take i ++ L.drop (i + 1))) false]]) none) rfl rfl (.rows _ _ _ (RowsF.app (RowsF.same (histRows_one H)) ⟨⟨⟨hX ▸ Lent.refl _, rfl⟩, trivial⟩, trivial⟩)) (by rw [histRows_app]; exact congrArg (fun r => [Blk.rows 1 r none]) (histRows_ren _).symm) .nil))) rfl rfl (by rw [hK]; rfl))) (.le (mp := [(28, 28), (4, 4), (29, 29)]) (bo := []) (LeG.mk' rfl rfl rfl (by repeat' (first | exact trivial | exact ⟨_, .refl _, rfl⟩ | apply And.intro)) (.cons 28 rfl rfl (.refl _) rfl (.cons 4 rfl rfl (.refl _) rfl (.cons 29 rfl rfl (.pure _ _ _ (histRows_pure _)) rfl .nil))) rfl rfl (by rw [hK]; rfl))))⟩
          · clear hb
            have hr8 := nextV_range l (nextP l q) (n := 4) (by omega)
            have sp8 := next_spec l (nextP l q) 4 (by omega) hq1
            have sp9 := table_spec l (1 + nextV l (nextP l q) 4) (nextP l (nextP l q)) hq2
            obtain ⟨t1, t2, t3⟩ := tblF_ok (l := l) (id := 1 + nextV l (nextP l q) 4) hq2
            have htv := table_good t1 (by rw [t2]; omega)
            have htid : 1 ≤ (tblF l (1 + nextV l (nextP l q) 4) (nextP l (nextP l q))).1.id := by rw [t2]; omega
            have hput := fun i j hij h1 h2 h3 => hs.put (by omega) htv htid hL (i := i) (j := j) hij h1 h2 h3
            have spP := put_spec c (tblF l (1 + nextV l (nextP l q) 4) (nextP l (nextP l q))).1
            have hp0 := (put_ok hs.ok htv htid (by omega) (by omega)).1
            rw [show putM c (tblF l (1 + nextV l (nextP l q) 4) (nextP l (nextP l q))).1 = ((putM c (tblF l (1 + nextV l (nextP l q) 4) (nextP l (nextP l q))).1).1, 0) by rw [← hp0]] at spP
            clear t1 t2 hp0
            generalize (tblF l (1 + nextV l (nextP l q) 4) (nextP l (nextP l q))).1 = x at *
            generalize (tblF l (1 + nextV l (nextP l q) 4) (nextP l (nextP l q))).2 = q3 at *
            generalize (putM c x).1 = c1 at *
            repeat (first | refine gA ?_ | refine gB ?_ | refine gC rfl ?_ | refine gD rfl ?_ | ((first | refine gE env hN (by kernel_rfl) ?_ | refine gF ?_ | refine gG ?_ | refine gH fun hlen => ?_ | refine gI (by kernel_rfl) ?_ | refine And.intro rfl ?_ | refine And.intro (by omega) ?_ | refine gJ rfl ?_ | refine gK (by omega) ?_ | refine gL (by omega) ?_ | refine gK rfl ?_ | refine Or.inr ?_); conv => whnf))
            (refine ⟨_, _, _, callG [(0, 28)] [] [] rfl rfl rfl (by kernel_rfl) (sp8) (by repeat' (first | exact trivial | exact Lent.refl _ | exact Lent.norm _ | exact Lent.whole rfl rfl (by first | rfl | exact List.length_append.symm | exact hlenR | simp) rfl (by first | exact .inl rfl | exact .inr rfl) | apply And.intro)) rfl ⟨rfl, rfl, rfl, rfl, rfl, by repeat' (first | exact trivial | rfl | apply And.intro), rfl, rfl⟩, ?_⟩; conv => whnf)
            repeat (first | refine gA ?_ | refine gB ?_ | refine gC rfl ?_ | refine gD rfl ?_ | ((first | refine gE env hN (by kernel_rfl) ?_ | refine gF ?_ | refine gG ?_ | refine gH fun hlen => ?_ | refine gI (by kernel_rfl) ?_ | refine And.intro rfl ?_ | refine And.intro (by omega) ?_ | refine gJ rfl ?_ | refine gK (by omega) ?_ | refine gL (by omega) ?_ | refine gK rfl ?_ | refine Or.inr ?_); conv => whnf))
            (refine ⟨_, _, _, callG [(0, 28)] [] [] rfl rfl rfl (by kernel_rfl) (sp9) (by repeat' (first | exact trivial | exact Lent.refl _ | exact Lent.norm _ | exact Lent.whole rfl rfl (by first | rfl | exact List.length_append.symm | exact hlenR | simp) rfl (by first | exact .inl rfl | exact .inr rfl) | apply And.intro)) rfl ⟨rfl, rfl, rfl, rfl, rfl, by repeat' (first | exact trivial | rfl | apply And.intro), rfl, rfl⟩, ?_⟩; conv => whnf)
            repeat (first | refine gA ?_ | refine gB ?_ | refine gC rfl ?_ | refine gD rfl ?_ | ((first | refine gE env hN (by kernel_rfl) ?_ | refine gF ?_ | refine gG ?_ | refine gH fun hlen => ?_ | refine gI (by kernel_rfl) ?_ | refine And.intro rfl ?_ | refine And.intro (by omega) ?_ | refine gJ rfl ?_ | refine gK (by omega) ?_ | refine gL (by omega) ?_ | refine gK rfl ?_ | refine Or.inr ?_); conv => whnf))
            (refine ⟨_, _, _, callG [] [] [] rfl rfl rfl (by kernel_rfl) (spP) (by repeat' (first | exact trivial | exact Lent.refl _ | exact Lent.norm _ | apply And.intro)) rfl ⟨rfl, rfl, rfl, rfl, rfl, trivial, rfl, rfl⟩, ?_⟩; conv => whnf)
            repeat (first | refine gA ?_ | refine gB ?_ | refine gC rfl ?_ | refine gD rfl ?_ | ((first | refine gE env hN (by kernel_rfl) ?_ | refine gF ?_ | refine gG ?_ | refine gH fun hlen => ?_ | refine gI (by kernel_rfl) ?_ | refine And.intro rfl ?_ | refine And.intro (by omega) ?_ | refine gJ rfl ?_ | refine gK (by omega) ?_ | refine gL (by omega) ?_ | refine gK rfl ?_ | refine Or.inr ?_); conv => whnf))
            refine W.loopG (fun n st => ∃ j : Nat, j ≤ L.length ∧ (∀ p (hp : p < L.length), p < j → L[p].id < x.id) ∧ n = L.length - j ∧ st = ⟨[(3, .bp 28 0), (4, .bp 4 0), (5, .osl 29 0 0 H.length H.length), (6, .int .i64 k), (7, .sl (tblRows L) false), (15, .bp 15 0), (18, .int .i64 j)], [(28, [diceB l q3]), (4, [.rows 3 [c1.row] none]), (29, [.rows 1 (histRows H) (some [])]), (15, [.rows 3 [x.row] none])], [28, 4, 29, 15]⟩)
              L.length _ ⟨0, by omega, fun p hp h => by omega, by omega, rfl⟩ ⟨[(28, 28), (4, 4), (29, 29), (15, 15)], [], [], LeG.mk' rfl rfl rfl (by repeat' (first | exact trivial | exact ⟨_, .refl _, rfl⟩ | apply And.intro)) (.cons 28 rfl rfl (.refl _) rfl (.cons 4 rfl rfl (.refl _) rfl (.cons 29 rfl rfl (.refl _) rfl (.cons 15 rfl rfl (.refl _) rfl .nil)))) rfl rfl (by rw [hK]; rfl)⟩ ?_
            rintro n st ⟨j, hj, hbelow, rfl, rfl⟩
            have hlen3 : (List.drop (Int.toNat 0) (List.take (j : Int).toNat (tblRows L))).length + 1 = (List.drop (Int.toNat 0) (List.take (j : Int).toNat (tblRows L)) ++ [x.row]).length := by rw [List.length_append]; rfl
            have hlen4 : ∀ k : Nat, (List.drop (Int.toNat 0) (List.take (j : Int).toNat (tblRows L))).length + 1 + (List.drop k (List.take ((tblRows L).length : Int).toNat (tblRows L))).length = ((List.drop (Int.toNat 0) (List.take (j : Int).toNat (tblRows L)) ++ [x.row]) ++ List.drop k (List.take ((tblRows L).length : Int).toNat (tblRows L))).length := fun k => by
              rw [hlen3]; exact List.length_append.symm
            have hX0 : V.sl ((List.drop (Int.toNat 0) (List.take (j : Int).toNat (tblRows L)) ++ [x.row]) ++ List.drop (j : Int).toNat (List.take ((tblRows L).length : Int).toNat (tblRows L))) false = V.sl (tblRows (L.take j ++ x :: L.drop j)) false := by
              rw [tblRows_take, tblRows_drop0]; simp [tblRows]
            have hX1 : V.sl ((List.drop (Int.toNat 0) (List.take (j : Int).toNat (tblRows L)) ++ [x.row]) ++ List.drop ((j : Int) + 1).toNat (List.take ((tblRows L).length : Int).toNat (tblRows L))) false = V.sl (tblRows (L.take j ++ x :: L.drop (j + 1))) false := by
              rw [tblRows_take, tblRows_drop]; simp [tblRows]
            repeat (first | refine gA ?_ | refine gB ?_ | refine gC rfl ?_ | refine gD rfl ?_ | ((first | refine gE env hN (by kernel_rfl) ?_ | refine gF ?_ | refine gG ?_ | refine gH fun hlen => ?_ | refine gI (by kernel_rfl) ?_ | refine And.intro rfl ?_ | refine And.intro (by omega) ?_ | refine gJ rfl ?_ | refine gK (by omega) ?_ | refine gL (by omega) ?_ | refine gK rfl ?_ | refine Or.inr ?_); conv => whnf))
            refine boolRes_split (fun hb => ?_) (fun hb => ?_) <;> conv => whnf
            · have hjl : j < L.length := by omega
              have hgj := tblRows_get hjl
              repeat (first | refine gA ?_ | refine gB ?_ | refine gC rfl ?_ | refine gD rfl ?_ | ((first | refine gE env hN (by kernel_rfl) ?_ | refine gF ?_ | refine gG ?_ | refine gH fun hlen => ?_ | refine gI (by kernel_rfl) ?_ | refine And.intro rfl ?_ | refine And.intro (by omega) ?_ | refine gJ rfl ?_ | refine gK (by omega) ?_ | refine gL (by omega) ?_ | refine gK rfl ?_ | refine Or.inr ?_); conv => whnf))
              refine rowAt_of (by simpa using hgj) ?_
              conv => whnf
              repeat (first | refine gA ?_ | refine gB ?_ | refine gC rfl ?_ | refine gD rfl ?_ | ((first | refine gE env hN (by kernel_rfl) ?_ | refine gF ?_ | refine gG ?_ | refine gH fun hlen => ?_ | refine gI (by kernel_rfl) ?_ | refine And.intro rfl ?_ | refine And.intro (by omega) ?_ | refine gJ rfl ?_ | refine gK (by omega) ?_ | refine gL (by omega) ?_ | refine gK rfl ?_ | refine Or.inr ?_); conv => whnf))
              refine boolRes_split (fun hb => ?_) (fun hb => ?_) <;> conv => whnf
              · repeat (first | refine gA ?_ | refine gB ?_ | refine gC rfl ?_ | refine gD rfl ?_ | ((first | refine gE env hN (by kernel_rfl) ?_ | refine gF ?_ | refine gG ?_ | refine gH fun hlen => ?_ | refine gI (by kernel_rfl) ?_ | refine And.intro rfl ?_ | refine And.intro (by omega) ?_ | refine gJ rfl ?_ | refine gK (by omega) ?_ | refine gL (by omega) ?_ | refine gK rfl ?_ | refine Or.inr ?_); conv => whnf))
                refine ⟨_, _, ?_, ⟨j + 1, by omega, fun p hp h => ?_, rfl, rfl⟩, ⟨[(28, 28), (4, 4), (29, 29), (15, 15)], [], [], LeG.mk' rfl rfl rfl (by repeat' (first | exact trivial | exact ⟨_, .refl _, rfl⟩ | apply And.intro)) (.cons 28 rfl rfl (.refl _) rfl (.cons 4 rfl rfl (.refl _) rfl (.cons 29 rfl rfl (.refl _) rfl (.cons 15 rfl rfl (.refl _) rfl .nil)))) rfl rfl (by rw [hK]; rfl)⟩⟩
                · omega
                · by_cases e : p = j
                  · subst e; assumption
                  · exact hbelow p hp (by omega)
              · repeat (first | refine gA ?_ | refine gB ?_ | refine gC rfl ?_ | refine gD rfl ?_ | ((first | refine gE env hN (by kernel_rfl) ?_ | refine gF ?_ | refine gG ?_ | refine gH fun hlen => ?_ | refine gI (by kernel_rfl) ?_ | refine And.intro rfl ?_ | refine And.intro (by omega) ?_ | refine gJ rfl ?_ | refine gK (by omega) ?_ | refine gL (by omega) ?_ | refine gK rfl ?_ | refine Or.inr ?_); conv => whnf))
                refine rowAt_of (by simpa using hgj) ?_
                conv => whnf
                repeat (first | refine gA ?_ | refine gB ?_ | refine gC rfl ?_ | refine gD rfl ?_ | ((first | refine gE env hN (by kernel_rfl) ?_ | refine gF ?_ | refine gG ?_ | refine gH fun hlen => ?_ | refine gI (by kernel_rfl) ?_ | refine And.intro rfl ?_ | refine And.intro (by omega) ?_ | refine gJ rfl ?_ | refine gK (by omega) ?_ | refine gL (by omega) ?_ | refine gK rfl ?_ | refine Or.inr ?_); conv => whnf))
                refine boolRes_split (fun hb => ?_) (fun hb => ?_) <;> conv => whnf
                · have hst := (hput j (j + 1) (by omega) hbelow (fun p hp h => by
                    have := asc_get hSh.1 hjl hp (by omega)
                    omega) (fun p hp h1 h2 => by
                    have : p = j := by omega
                    subst this
                    assumption)).2
                  repeat (first | refine gA ?_ | refine gB ?_ | refine gC rfl ?_ | refine gD rfl ?_ | ((first | refine gE env hN (by kernel_rfl) ?_ | refine gF ?_ | refine gG ?_ | refine gH fun hlen => ?_ | refine gI (by kernel_rfl) ?_ | refine And.intro rfl ?_ | refine And.intro (by omega) ?_ | refine gJ rfl ?_ | refine gK (by omega) ?_ | refine gL (by omega) ?_ | refine gK rfl ?_ | refine Or.inr ?_); conv => whnf))
                  refine ⟨tblRows_sz _, ?_⟩
                  conv => whnf
                  repeat (first | refine gA ?_ | refine gB ?_ | refine gC rfl ?_ | refine gD rfl ?_ | ((first | refine gE env hN (by kernel_rfl) ?_ | refine gF ?_ | refine gG ?_ | refine gH fun hlen => ?_ | refine gI (by kernel_rfl) ?_ | refine And.intro rfl ?_ | refine And.intro (by omega) ?_ | refine gJ rfl ?_ | refine gK (by omega) ?_ | refine gL (by omega) ?_ | refine gK rfl ?_ | refine Or.inr ?_); conv => whnf))
                  refine ⟨⟨rowsSz_cons rfl rowsSz_nil, rowsSz_sub (tblRows_sz _), fun h => by cases h⟩, fitN (n := (List.drop (Int.toNat 0) (List.take (j : Int).toNat (tblRows L))).length + 1) (b := 48) (by simp; omega) (by omega), ?_⟩
                  conv => whnf
                  refine Or.inl ?_
                  conv => whnf
                  repeat (first | refine gA ?_ | refine gB ?_ | refine gC rfl ?_ | refine gD rfl ?_ | ((first | refine gE env hN (by kernel_rfl) ?_ | refine gF ?_ | refine gG ?_ | refine gH fun hlen => ?_ | refine gI (by kernel_rfl) ?_ | refine And.intro rfl ?_ | refine And.intro (by omega) ?_ | refine gJ rfl ?_ | refine gK (by omega) ?_ | refine gL (by omega) ?_ | refine gK rfl ?_ | refine Or.inr ?_); conv => whnf))
                  refine ⟨tblRows_sz _, ?_⟩
                  conv => whnf
                  repeat (first | refine gA ?_ | refine gB ?_ | refine gC rfl ?_ | refine gD rfl ?_ | ((first | refine gE env hN (by kernel_rfl) ?_ | refine gF ?_ | refine gG ?_ | refine gH fun hlen => ?_ | refine gI (by kernel_rfl) ?_ | refine And.intro rfl ?_ | refine And.intro (by omega) ?_ | refine gJ rfl ?_ | refine gK (by omega) ?_ | refine gL (by omega) ?_ | refine gK rfl ?_ | refine Or.inr ?_); conv => whnf))
                  refine ⟨⟨rowsSz_sub (tblRows_sz _), hlen3⟩, fitN (n := (List.drop (Int.toNat 0) (List.take (j : Int).toNat (tblRows L))).length + 1 + (List.drop ((j : Int) + 1).toNat (List.take ((tblRows L).length : Int).toNat (tblRows L))).length) (b := 48) (by simp; omega) (by omega), .inl ⟨rfl, rfl, ?_⟩⟩
                  conv => whnf
                  repeat (first | refine gA ?_ | refine gB ?_ | refine gC rfl ?_ | refine gD rfl ?_ | ((first | refine gE env hN (by kernel_rfl) ?_ | refine gF ?_ | refine gG ?_ | refine gH fun hlen => ?_ | refine gI (by kernel_rfl) ?_ | refine And.intro rfl ?_ | refine And.intro (by omega) ?_ | refine gJ rfl ?_ | refine gK (by omega) ?_ | refine gL (by omega) ?_ | refine gK rfl ?_); conv => whnf))
                  refine Or.inl ?_
                  conv => whnf
                  repeat (first | refine gA ?_ | refine gB ?_ | refine gC rfl ?_ | refine gD rfl ?_ | ((first | refine gE env hN (by kernel_rfl) ?_ | refine gF ?_ | refine gG ?_ | refine gH fun hlen => ?_ | refine gI (by kernel_rfl) ?_ | refine And.intro rfl ?_ | refine And.intro (by omega) ?_ | refine gJ rfl ?_ | refine gK (by omega) ?_ | refine gL (by omega) ?_ | refine gK rfl ?_); conv => whnf))
                  refine ⟨⟨rfl, hHl.symm⟩, fitN (n := H.length + 1) (b := 24) (by omega) (by omega), .inl ⟨rfl, rfl, ?_⟩⟩
                  conv => whnf
                  repeat (first | refine gA ?_ | refine gB ?_ | refine gC rfl ?_ | refine gD rfl ?_ | ((first | refine gE env hN (by kernel_rfl) ?_ | refine gF ?_ | refine gG ?_ | refine gH fun hlen => ?_ | refine gI (by kernel_rfl) ?_ | refine And.intro rfl ?_ | refine And.intro (by omega) ?_ | refine gJ rfl ?_ | refine gK (by omega) ?_ | refine gL (by omega) ?_ | refine gK rfl ?_ | refine Or.inr ?_); conv => whnf))
                  refine ⟨_, ⟨q3, c1, H ++ [L.take j ++ x :: L.drop (j + 1)], ⟨hst, t3, by omega, by simp⟩, rfl⟩, .trans (.unks 29 rfl) (.trans (.le (s' := ⟨[(3, .bp 28 0), (4, .bp 4 0), (5, .osl 29 0 0 (H ++ [L.take j ++ x :: L.drop (j + 1)]).length (H ++ [L.take j ++ x :: L.drop (j + 1)]).length), (6, .int .i64 k)], [(28, [diceB l (q3)]), (4, [.rows 3 [(c1).row] none]), (29, [.rows 1 (histRows (H ++ [L.take j ++ x :: L.drop (j + 1)])) none])], [28, 4, 29]⟩) (mp := [(28, 28), (4, 4), (29, 29)]) (bo := [97]) (LeG.mk' rfl rfl rfl ⟨⟨_, .refl _, rfl⟩, ⟨_, .refl _, rfl⟩, ⟨_, .refl _, congrArg (fun n => V.osl 29 0 0 n n) (by rw [List.length_append]; rfl)⟩, ⟨_, .refl _, rfl⟩, trivial⟩ (.cons 28 rfl rfl (.refl _) rfl (.cons 4 rfl rfl (.refl _) rfl (.cons 29 (b1 := .rows 1 (histRows H ++ [[V.sl (tblRows (L.take j ++ x :: L.drop (j + 1))) false]]) none) rfl rfl (.rows _ _ _ (RowsF.app (RowsF.same (histRows_one H)) ⟨⟨⟨hX1 ▸ Lent.whole rfl rfl (hlen4 _) rfl (.inl rfl), rfl⟩, trivial⟩, trivial⟩)) (by rw [histRows_app]; exact congrArg (fun r => [Blk.rows 1 r none]) (histRows_ren _).symm) .nil))) rfl rfl (by rw [hK]; rfl))) (.le (mp := [(28, 28), (4, 4), (29, 29)]) (bo := []) (LeG.mk' rfl rfl rfl (by repeat' (first | exact trivial | exact ⟨_, .refl _, rfl⟩ | apply And.intro)) (.cons 28 rfl rfl (.refl _) rfl (.cons 4 rfl rfl (.refl _) rfl (.cons 29 rfl rfl (.pure _ _ _ (histRows_pure _)) rfl .nil))) rfl rfl (by rw [hK]; rfl))))⟩
                · have hst := (hput j j (Nat.le_refl _) hbelow (fun p hp h => by
                    by_cases e : p = j
                    · subst e; omega
                    · have := asc_get hSh.1 hjl hp (by omega)
                      omega) (fun p hp h1 h2 => by omega)).2
                  repeat (first | refine gA ?_ | refine gB ?_ | refine gC rfl ?_ | refine gD rfl ?_ | ((first | refine gE env hN (by kernel_rfl) ?_ | refine gF ?_ | refine gG ?_ | refine gH fun hlen => ?_ | refine gI (by kernel_rfl) ?_ | refine And.intro rfl ?_ | refine And.intro (by omega) ?_ | refine gJ rfl ?_ | refine gK (by omega) ?_ | refine gL (by omega) ?_ | refine gK rfl ?_ | refine Or.inr ?_); conv => whnf))
                  refine ⟨tblRows_sz _, ?_⟩
                  conv => whnf
                  repeat (first | refine gA ?_ | refine gB ?_ | refine gC rfl ?_ | refine gD rfl ?_ | ((first | refine gE env hN (by kernel_rfl) ?_ | refine gF ?_ | refine gG ?_ | refine gH fun hlen => ?_ | refine gI (by kernel_rfl) ?_ | refine And.intro rfl ?_ | refine And.intro (by omega) ?_ | refine gJ rfl ?_ | refine gK (by omega) ?_ | refine gL (by omega) ?_ | refine gK rfl ?_ | refine Or.inr ?_); conv => whnf))
                  refine ⟨⟨rowsSz_cons rfl rowsSz_nil, rowsSz_sub (tblRows_sz _), fun h => by cases h⟩, fitN (n := (List.drop (Int.toNat 0) (List.take (j : Int).toNat (tblRows L))).length + 1) (b := 48) (by simp; omega) (by omega), ?_⟩
                  conv => whnf
                  refine Or.inl ?_
                  conv => whnf
                  repeat (first | refine gA ?_ | refine gB ?_ | refine gC rfl ?_ | refine gD rfl ?_ | ((first | refine gE env hN (by kernel_rfl) ?_ | refine gF ?_ | refine gG ?_ | refine gH fun hlen => ?_ | refine gI (by kernel_rfl) ?_ | refine And.intro rfl ?_ | refine And.intro (by omega) ?_ | refine gJ rfl ?_ | refine gK (by omega) ?_ | refine gL (by omega) ?_ | refine gK rfl ?_ | refine Or.inr ?_); conv => whnf))
                  refine ⟨tblRows_sz _, ?_⟩
                  conv => whnf
                  repeat (first | refine gA ?_ | refine gB ?_ | refine gC rfl ?_ | refine gD rfl ?_ | ((first | refine gE env hN (by kernel_rfl) ?_ | refine gF ?_ | refine gG ?_ | refine gH fun hlen => ?_ | refine gI (by kernel_rfl) ?_ | refine And.intro rfl ?_ | refine And.intro (by omega) ?_ | refine gJ rfl ?_ | refine gK (by omega) ?_ | refine gL (by omega) ?_ | refine gK rfl ?_ | refine Or.inr ?_); conv => whnf))
                  refine ⟨⟨rowsSz_sub (tblRows_sz _), hlen3⟩, fitN (n := (List.drop (Int.toNat 0) (List.take (j : Int).toNat (tblRows L))).length + 1 + (List.drop (j : Int).toNat (List.take ((tblRows L).length : Int).toNat (tblRows L))).length) (b := 48) (by simp; omega) (by omega), .inl ⟨rfl, rfl, ?_⟩⟩
                  conv => whnf
                  repeat (first | refine gA ?_ | refine gB ?_ | refine gC rfl ?_ | refine gD rfl ?_ | ((first | refine gE env hN (by kernel_rfl) ?_ | refine gF ?_ | refine gG ?_ | refine gH fun hlen => ?_ | refine gI (by kernel_rfl) ?_ | refine And.intro rfl ?_ | refine And.intro (by omega) ?_ | refine gJ rfl ?_ | refine gK (by omega) ?_ | refine gL (by omega) ?_ | refine gK rfl ?_); conv => whnf))
                  refine Or.inl ?_
                  conv => whnf
                  repeat (first | refine gA ?_ | refine gB ?_ | refine gC rfl ?_ | refine gD rfl ?_ | ((first | refine gE env hN (by kernel_rfl) ?_ | refine gF ?_ | refine gG ?_ | refine gH fun hlen => ?_ | refine gI (by kernel_rfl) ?_ | refine And.intro rfl ?_ | refine And.intro (by omega) ?_ | refine gJ rfl ?_ | refine gK (by omega) ?_ | refine gL (by omega) ?_ | refine gK rfl ?_); conv => whnf))
                  refine ⟨⟨rfl, hHl.symm⟩, fitN (n := H.length + 1) (b := 24) (by omega) (by omega), .inl ⟨rfl, rfl, ?_⟩⟩
                  conv => whnf
                  repeat (first | refine gA ?_ | refine gB ?_ | refine gC rfl ?_ | refine gD rfl ?_ | ((first | refine gE env hN (by kernel_rfl) ?_ | refine gF ?_ | refine gG ?_ | refine gH fun hlen => ?_ | refine gI (by kernel_rfl) ?_ | refine And.intro rfl ?_ | refine And.intro (by omega) ?_ | refine gJ rfl ?_ | refine gK (by omega) ?_ | refine gL (by omega) ?_ | refine gK rfl ?_ | refine Or.inr ?_); conv => whnf))
                  refine ⟨_, ⟨q3, c1, H ++ [L.take j ++ x :: L.drop j], ⟨hst, t3, by omega, by simp⟩, rfl⟩, .trans (.unks 29 rfl) (.trans (.le (s' := ⟨[(3, .bp 28 0), (4, .bp 4 0), (5, .osl 29 0 0 (H ++ [L.take j ++ x :: L.drop j]).length (H ++ [L.take j ++ x :: L.drop j]).length), (6, .int .i64 k)], [(28, [diceB l (q3)]), (4, [.rows 3 [(c1).row] none]), (29, [.rows 1 (histRows (H ++ [L.take j ++ x :: L.drop j])) none])], [28, 4, 29]⟩) (mp := [(28, 28), (4, 4), (29, 29)]) (bo := [97]) (LeG.mk' rfl rfl rfl ⟨⟨_, .refl _, rfl⟩, ⟨_, .refl _, rfl⟩, ⟨_, .refl _, congrArg (fun n => V.osl 29 0 0 n n) (by rw [List.length_append]; rfl)⟩, ⟨_, .refl _, rfl⟩, trivial⟩ (.cons 28 rfl rfl (.refl _) rfl (.cons 4 rfl rfl (.refl _) rfl (.cons 29 (b1 := .rows 1 (histRows H ++ [[V.sl (tblRows (L.take j ++ x :: L.drop j)) false]]) none) rfl rfl (.rows _ _ _ (RowsF.app (RowsF.same (histRows_one H)) ⟨⟨⟨hX0 ▸ Lent.whole rfl rfl (hlen4 _) rfl (.inl rfl), rfl⟩, trivial⟩, trivial⟩)) (by rw [histRows_app]; exact congrArg (fun r => [Blk.rows 1 r none]) (histRows_ren _).symm) .nil))) rfl rfl (by rw [hK]; rfl))) (.le (mp := [(28, 28), (4, 4), (29, 29)]) (bo := []) (LeG.mk' rfl rfl rfl (by repeat' (first | exact trivial | exact ⟨_, .refl _, rfl⟩ | apply And.intro)) (.cons 28 rfl rfl (.refl _) rfl (.cons 4 rfl rfl (.refl _) rfl (.cons 29 rfl rfl (.pure _ _ _ (histRows_pure _)) rfl .nil))) rfl rfl (by rw [hK]; rfl))))⟩
            · have hst := (hput j j (Nat.le_refl _) hbelow (fun p hp h => by omega) (fun p hp h1 h2 => by omega)).2
              repeat (first | refine gA ?_ | refine gB ?_ | refine gC rfl ?_ | refine gD rfl ?_ | ((first | refine gE env hN (by kernel_rfl) ?_ | refine gF ?_ | refine gG ?_ | refine gH fun hlen => ?_ | refine gI (by kernel_rfl) ?_ | refine And.intro rfl ?_ | refine And.intro (by omega) ?_ | refine gJ rfl ?_ | refine gK (by omega) ?_ | refine gL (by omega) ?_ | refine gK rfl ?_ | refine Or.inr ?_); conv => whnf))
              refine ⟨tblRows_sz _, ?_⟩
              conv => whnf
              repeat (first | refine gA ?_ | refine gB ?_ | refine gC rfl ?_ | refine gD rfl ?_ | ((first | refine gE env hN (by kernel_rfl) ?_ | refine gF ?_ | refine gG ?_ | refine gH fun hlen => ?_ | refine gI (by kernel_rfl) ?_ | refine And.intro rfl ?_ | refine And.intro (by omega) ?_ | refine gJ rfl ?_ | refine gK (by omega) ?_ | refine gL (by omega) ?_ | refine gK rfl ?_ | refine Or.inr ?_); conv => whnf))
              refine ⟨⟨rowsSz_cons rfl rowsSz_nil, rowsSz_sub (tblRows_sz _), fun h => by cases h⟩, fitN (n := (List.drop (Int.toNat 0) (List.take (j : Int).toNat (tblRows L))).length + 1) (b := 48) (by simp; omega) (by omega), ?_⟩
              conv => whnf
              refine Or.inl ?_
              conv => whnf
              repeat (first | refine gA ?_ | refine gB ?_ | refine gC rfl ?_ | refine gD rfl ?_ | ((first | refine gE env hN (by kernel_rfl) ?_ | refine gF ?_ | refine gG ?_ | refine gH fun hlen => ?_ | refine gI (by kernel_rfl) ?_ | refine And.intro rfl ?_ | refine And.intro (by omega) ?_ | refine gJ rfl ?_ | refine gK (by omega) ?_ | refine gL (by omega) ?_ | refine gK rfl ?_ | refine Or.inr ?_); conv => whnf))
              refine ⟨tblRows_sz _, ?_⟩
              conv => whnf
              repeat (first | refine gA ?_ | refine gB ?_ | refine gC rfl ?_ | refine gD rfl ?_ | ((first | refine gE env hN (by kernel_rfl) ?_ | refine gF ?_ | refine gG ?_ | refine gH fun hlen => ?_ | refine gI (by kernel_rfl) ?_ | refine And.intro rfl ?_ | refine And.intro (by omega) ?_ | refine gJ rfl ?_ | refine gK (by omega) ?_ | refine gL (by omega) ?_ | refine gK rfl ?_ | refine Or.inr ?_); conv => whnf))
              refine ⟨⟨rowsSz_sub (tblRows_sz _), hlen3⟩, fitN (n := (List.drop (Int.toNat 0) (List.take (j : Int).toNat (tblRows L))).length + 1 + (List.drop (j : Int).toNat (List.take ((tblRows L).length : Int).toNat (tblRows L))).length) (b := 48) (by simp; omega) (by omega), .inl ⟨rfl, rfl, ?_⟩⟩
              conv => whnf
              repeat (first | refine gA ?_ | refine gB ?_ | refine gC rfl ?_ | refine gD rfl ?_ | ((first | refine gE env hN (by kernel_rfl) ?_ | refine gF ?_ | refine gG ?_ | refine gH fun hlen => ?_ | refine gI (by kernel_rfl) ?_ | refine And.intro rfl ?_ | refine And.intro (by omega) ?_ | refine gJ rfl ?_ | refine gK (by omega) ?_ | refine gL (by omega) ?_ | refine gK rfl ?_); conv => whnf))
              refine Or.inl ?_
              conv => whnf
              repeat (first | refine gA ?_ | refine gB ?_ | refine gC rfl ?_ | refine gD rfl ?_ | ((first | refine gE env hN (by kernel_rfl) ?_ | refine gF ?_ | refine gG ?_ | refine gH fun hlen => ?_ | refine gI (by kernel_rfl) ?_ | refine And.intro rfl ?_ | refine And.intro (by omega) ?_ | refine gJ rfl ?_ | refine gK (by omega) ?_ | refine gL (by omega) ?_ | refine gK rfl ?_); conv => whnf))
              refine ⟨⟨rfl, hHl.symm⟩, fitN (n := H.length + 1) (b := 24) (by omega) (by omega), .inl ⟨rfl, rfl, ?_⟩⟩
              conv => whnf
              repeat (first | refine gA ?_ | refine gB ?_ | refine gC rfl ?_ | refine gD rfl ?_ | ((first | refine gE env hN (by kernel_rfl) ?_ | refine gF ?_ | refine gG ?_ | refine gH fun hlen => ?_ | refine gI (by kernel_rfl) ?_ | refine And.intro rfl ?_ | refine And.intro (by omega) ?_ | refine gJ rfl ?_ | refine gK (by omega) ?_ | refine gL (by omega) ?_ | refine gK rfl ?_ | refine Or.inr ?_); conv => whnf))
              refine ⟨_, ⟨q3, c1, H ++ [L.take j ++ x :: L.drop j], ⟨hst, t3, by omega, by simp⟩, rfl⟩, .trans (.unks 29 rfl) (.trans (.le (s' := ⟨[(3, .bp 28 0), (4, .bp 4 0), (5, .osl 29 0 0 (H ++ [L.take j ++ x :: L.drop j]).length (H ++ [L.take j ++ x :: L.drop j]).length), (6, .int .i64 k)], [(28, [diceB l (q3)]), (4, [.rows 3 [(c1).row] none]), (29, [.rows 1 (histRows (H ++ [L.take j ++ x :: L.drop j])) none])], [28, 4, 29]⟩) (mp := [(28, 28), (4, 4), (29, 29)]) (bo := [97]) (LeG.mk' rfl rfl rfl ⟨⟨_, .refl _, rfl⟩, ⟨_, .refl _, rfl⟩, ⟨_, .refl _, congrArg (fun n => V.osl 29 0 0 n n) (by rw [List.length_append]; rfl)⟩, ⟨_, .refl _, rfl⟩, trivial⟩ (.cons 28 rfl rfl (.refl _) rfl (.cons 4 rfl rfl (.refl _) rfl (.cons 29 (b1 := .rows 1 (histRows H ++ [[V.sl (tblRows (L.take j ++ x :: L.drop j)) false]]) none) rfl rfl (.rows _ _ _ (RowsF.app (RowsF.same (histRows_one H)) ⟨⟨⟨hX0 ▸ Lent.whole rfl rfl (hlen4 _) rfl (.inl rfl), rfl⟩, trivial⟩, trivial⟩)) (by rw [histRows_app]; exact congrArg (fun r => [Blk.rows 1 r none]) (histRows_ren _).symm) .nil))) rfl rfl (by rw [hK]; rfl))) (.le (mp := [(28, 28), (4, 4), (29, 29)]) (bo := []) (LeG.mk' rfl rfl rfl (by repeat' (first | exact trivial | exact ⟨_, .refl _, rfl⟩ | apply And.intro)) (.cons 28 rfl rfl (.refl _) rfl (.cons 4 rfl rfl (.refl _) rfl (.cons 29 rfl rfl (.pure _ _ _ (histRows_pure _)) rfl .nil))) rfl rfl (by rw [hK]; rfl))))⟩
        · repeat (first | refine gA ?_ | refine gB ?_ | refine gC rfl ?_ | refine gD rfl ?_ | ((first | refine gE env hN (by kernel_rfl) ?_ | refine gF ?_ | refine gG ?_ | refine gH fun hlen => ?_ | refine gI (by kernel_rfl) ?_ | refine And.intro rfl ?_ | refine And.intro (by omega) ?_ | refine gJ rfl ?_ | refine gK (by omega) ?_ | refine gL (by omega) ?_ | refine gK rfl ?_ | refine Or.inr ?_); conv => whnf))
          refine boolRes_split (fun hb => ?_) (fun hb => ?_) <;> conv => whnf
          · have sp8 := next_spec l (nextP l q) (c.version - c.oldest + 1) (by omega) hq1
            have hr8 := nextV_range l (nextP l q) (n := c.version - c.oldest + 1) (by omega)
            generalize nextV l (nextP l q) (c.version - c.oldest + 1) = u at *
            obtain ⟨v1, v2⟩ := hs.vac (o := c.oldest + u) (by omega)
            have spV := vacuum_spec c (c.oldest + u)
            rw [v1] at spV
            dsimp only at spV
            have hxo : (Coll.mk c.version (c.oldest + u) (keepM (c.oldest + u) c.items)).oldest = c.oldest + u := rfl
            have hxv : (Coll.mk c.version (c.oldest + u) (keepM (c.oldest + u) c.items)).version = c.version := rfl
            generalize Coll.mk c.version (c.oldest + u) (keepM (c.oldest + u) c.items) = c1 at *
            repeat (first | refine gA ?_ | refine gB ?_ | refine gC rfl ?_ | refine gD rfl ?_ | ((first | refine gE env hN (by kernel_rfl) ?_ | refine gF ?_ | refine gG ?_ | refine gH fun hlen => ?_ | refine gI (by kernel_rfl) ?_ | refine And.intro rfl ?_ | refine And.intro (by omega) ?_ | refine gJ rfl ?_ | refine gK (by omega) ?_ | refine gL (by omega) ?_ | refine gK rfl ?_ | refine Or.inr ?_); conv => whnf))
            (refine ⟨_, _, _, callG [(0, 28)] [] [] rfl rfl rfl (by kernel_rfl) (sp8) (by repeat' (first | exact trivial | exact Lent.refl _ | exact Lent.norm _ | exact Lent.whole rfl rfl (by first | rfl | exact List.length_append.symm | exact hlenR | simp) rfl (by first | exact .inl rfl | exact .inr rfl) | apply And.intro)) rfl ⟨rfl, rfl, rfl, rfl, rfl, by repeat' (first | exact trivial | rfl | apply And.intro), rfl, rfl⟩, ?_⟩; conv => whnf)
            repeat (first | refine gA ?_ | refine gB ?_ | refine gC rfl ?_ | refine gD rfl ?_ | ((first | refine gE env hN (by kernel_rfl) ?_ | refine gF ?_ | refine gG ?_ | refine gH fun hlen => ?_ | refine gI (by kernel_rfl) ?_ | refine And.intro rfl ?_ | refine And.intro (by omega) ?_ | refine gJ rfl ?_ | refine gK (by omega) ?_ | refine gL (by omega) ?_ | refine gK rfl ?_ | refine Or.inr ?_); conv => whnf))
            (refine ⟨_, _, _, callG [] [] [] rfl rfl rfl (by kernel_rfl) (spV) (by repeat' (first | exact trivial | exact Lent.refl _ | exact Lent.norm _ | apply And.intro)) rfl ⟨rfl, rfl, rfl, rfl, rfl, trivial, rfl, rfl⟩, ?_⟩; conv => whnf)
            repeat (first | refine gA ?_ | refine gB ?_ | refine gC rfl ?_ | refine gD rfl ?_ | ((first | refine gE env hN (by kernel_rfl) ?_ | refine gF ?_ | refine gG ?_ | refine gH fun hlen => ?_ | refine gI (by kernel_rfl) ?_ | refine And.intro rfl ?_ | refine And.intro (by omega) ?_ | refine gJ rfl ?_ | refine gK (by omega) ?_ | refine gL (by omega) ?_ | refine gK rfl ?_ | refine Or.inr ?_); conv => whnf))
            exact ⟨_, ⟨nextP l (nextP l q), c1, H, ⟨v2, hq2, by omega, hH⟩, rfl⟩, .le (mp := [(28, 28), (4, 4), (29, 29)]) (bo := []) (LeG.mk' rfl rfl rfl (by repeat' (first | exact trivial | exact ⟨_, .refl _, rfl⟩ | apply And.intro)) (.cons 28 rfl rfl (.refl _) rfl (.cons 4 rfl rfl (.refl _) rfl (.cons 29 rfl rfl (.refl _) rfl .nil))) rfl rfl (by rw [hK]; rfl))⟩
          ·
            have hr8 := nextV_range l (nextP l q) (n := 4) (by omega)
            have sp8 := next_spec l (nextP l q) 4 (by omega) hq1
            have sp9 := table_spec l (1 + nextV l (nextP l q) 4) (nextP l (nextP l q)) hq2
            obtain ⟨t1, t2, t3⟩ := tblF_ok (l := l) (id := 1 + nextV l (nextP l q) 4) hq2
            have htv := table_good t1 (by rw [t2]; omega)
            have htid : 1 ≤ (tblF l (1 + nextV l (nextP l q) 4) (nextP l (nextP l q))).1.id := by rw [t2]; omega
            have hput := fun i j hij h1 h2 h3 => hs.put (by omega) htv htid hL (i := i) (j := j) hij h1 h2 h3
            have spP := put_spec c (tblF l (1 + nextV l (nextP l q) 4) (nextP l (nextP l q))).1
            have hp0 := (put_ok hs.ok htv htid (by omega) (by omega)).1
            rw [show putM c (tblF l (1 + nextV l (nextP l q) 4) (nextP l (nextP l q))).1 = ((putM c (tblF l (1 + nextV l (nextP l q) 4) (nextP l (nextP l q))).1).1, 0) by rw [← hp0]] at spP
            clear t1 t2 hp0
            generalize (tblF l (1 + nextV l (nextP l q) 4) (nextP l (nextP l q))).1 = x at *
            generalize (tblF l (1 + nextV l (nextP l q) 4) (nextP l (nextP l q))).2 = q3 at *
            generalize (putM c x).1 = c1 at *
            repeat (first | refine gA ?_ | refine gB ?_ | refine gC rfl ?_ | refine gD rfl ?_ | ((first | refine gE env hN (by kernel_rfl) ?_ | refine gF ?_ | refine gG ?_ | refine gH fun hlen => ?_ | refine gI (by kernel_rfl) ?_ | refine And.intro rfl ?_ | refine And.intro (by omega) ?_ | refine gJ rfl ?_ | refine gK (by omega) ?_ | refine gL (by omega) ?_ | refine gK rfl ?_ | refine Or.inr ?_); conv => whnf))
            (refine ⟨_, _, _, callG [(0, 28)] [] [] rfl rfl rfl (by kernel_rfl) (sp8) (by repeat' (first | exact trivial | exact Lent.refl _ | exact Lent.norm _ | exact Lent.whole rfl rfl (by first | rfl | exact List.length_append.symm | exact hlenR | simp) rfl (by first | exact .inl rfl | exact .inr rfl) | apply And.intro)) rfl ⟨rfl, rfl, rfl, rfl, rfl, by repeat' (first | exact trivial | rfl | apply And.intro), rfl, rfl⟩, ?_⟩; conv => whnf)
            repeat (first | refine gA ?_ | refine gB ?_ | refine gC rfl ?_ | refine gD rfl ?_ | ((first | refine gE env hN (by kernel_rfl) ?_ | refine gF ?_ | refine gG ?_ | refine gH fun hlen => ?_ | refine gI (by kernel_rfl) ?_ | refine And.intro rfl ?_ | refine And.intro (by omega) ?_ | refine gJ rfl ?_ | refine gK (by omega) ?_ | refine gL (by omega) ?_ | refine gK rfl ?_ | refine Or.inr ?_); conv => whnf))
            (refine ⟨_, _, _, callG [(0, 28)] [] [] rfl rfl rfl (by kernel_rfl) (sp9) (by repeat' (first | exact trivial | exact Lent.refl _ | exact Lent.norm _ | exact Lent.whole rfl rfl (by first | rfl | exact List.length_append.symm | exact hlenR | simp) rfl (by first | exact .inl rfl | exact .inr rfl) | apply And.intro)) rfl ⟨rfl, rfl, rfl, rfl, rfl, by repeat' (first | exact trivial | rfl | apply And.intro), rfl, rfl⟩, ?_⟩; conv => whnf)
            repeat (first | refine gA ?_ | refine gB ?_ | refine gC rfl ?_ | refine gD rfl ?_ | ((first | refine gE env hN (by kernel_rfl) ?_ | refine gF ?_ | refine gG ?_ | refine gH fun hlen => ?_ | refine gI (by kernel_rfl) ?_ | refine And.intro rfl ?_ | refine And.intro (by omega) ?_ | refine gJ rfl ?_ | refine gK (by omega) ?_ | refine gL (by omega) ?_ | refine gK rfl ?_ | refine Or.inr ?_); conv => whnf))
            (refine ⟨_, _, _, callG [] [] [] rfl rfl rfl (by kernel_rfl) (spP) (by repeat' (first | exact trivial | exact Lent.refl _ | exact Lent.norm _ | apply And.intro)) rfl ⟨rfl, rfl, rfl, rfl, rfl, trivial, rfl, rfl⟩, ?_⟩; conv => whnf)
            repeat (first | refine gA ?_ | refine gB ?_ | refine gC rfl ?_ | refine gD rfl ?_ | ((first | refine gE env hN (by kernel_rfl) ?_ | refine gF ?_ | refine gG ?_ | refine gH fun hlen => ?_ | refine gI (by kernel_rfl) ?_ | refine And.intro rfl ?_ | refine And.intro (by omega) ?_ | refine gJ rfl ?_ | refine gK (by omega) ?_ | refine gL (by omega) ?_ | refine gK rfl ?_ | refine Or.inr ?_); conv => whnf))
            refine W.loopG (fun n st => ∃ j : Nat, j ≤ L.length ∧ (∀ p (hp : p < L.length), p < j → L[p].id < x.id) ∧ n = L.length - j ∧ st = ⟨[(3, .bp 28 0), (4, .bp 4 0), (5, .osl 29 0 0 H.length H.length), (6, .int .i64 k), (7, .sl (tblRows L) false), (15, .bp 15 0), (18, .int .i64 j)], [(28, [diceB l q3]), (4, [.rows 3 [c1.row] none]), (29, [.rows 1 (histRows H) (some [])]), (15, [.rows 3 [x.row] none])], [28, 4, 29, 15]⟩)
              L.length _ ⟨0, by omega, fun p hp h => by omega, by omega, rfl⟩ ⟨[(28, 28), (4, 4), (29, 29), (15, 15)], [], [], LeG.mk' rfl rfl rfl (by repeat' (first | exact trivial | exact ⟨_, .refl _, rfl⟩ | apply And.intro)) (.cons 28 rfl rfl (.refl _) rfl (.cons 4 rfl rfl (.refl _) rfl (.cons 29 rfl rfl (.refl _) rfl (.cons 15 rfl rfl (.refl _) rfl .nil)))) rfl rfl (by rw [hK]; rfl)⟩ ?_
            rintro n st ⟨j, hj, hbelow, rfl, rfl⟩
            have hlen3 : (List.drop (Int.toNat 0) (List.take (j : Int).toNat (tblRows L))).length + 1 = (List.drop (Int.toNat 0) (List.take (j : Int).toNat (tblRows L)) ++ [x.row]).length := by rw [List.length_append]; rfl
            have hlen4 : ∀ k : Nat, (List.drop (Int.toNat 0) (List.take (j : Int).toNat (tblRows L))).length + 1 + (List.drop k (List.take ((tblRows L).length : Int).toNat (tblRows L))).length = ((List.drop (Int.toNat 0) (List.take (j : Int).toNat (tblRows L)) ++ [x.row]) ++ List.drop k (List.take ((tblRows L).length : Int).toNat (tblRows L))).length := fun k => by
              rw [hlen3]; exact List.length_append.symm
            have hX0 : V.sl ((List.drop (Int.toNat 0) (List.take (j : Int).toNat (tblRows L)) ++ [x.row]) ++ List.drop (j : Int).toNat (List.take ((tblRows L).length : Int).toNat (tblRows L))) false = V.sl (tblRows (L.take j ++ x :: L.drop j)) false := by
              rw [tblRows_take, tblRows_drop0]; simp [tblRows]
            have hX1 : V.sl ((List.drop (Int.toNat 0) (List.take (j : Int).toNat (tblRows L)) ++ [x.row]) ++ List.drop ((j : Int) + 1).toNat (List.take ((tblRows L).length : Int).toNat (tblRows L))) false = V.sl (tblRows (L.take j ++ x :: L.drop (j + 1))) false := by
              rw [tblRows_take, tblRows_drop]; simp [tblRows]
            repeat (first | refine gA ?_ | refine gB ?_ | refine gC rfl ?_ | refine gD rfl ?_ | ((first | refine gE env hN (by kernel_rfl) ?_ | refine gF ?_ | refine gG ?_ | refine gH fun hlen => ?_ | refine gI (by kernel_rfl) ?_ | refine And.intro rfl ?_ | refine And.intro (by omega) ?_ | refine gJ rfl ?_ | refine gK (by omega) ?_ | refine gL (by omega) ?_ | refine gK rfl ?_ | refine Or.inr ?_); conv => whnf))
            refine boolRes_split (fun hb => ?_) (fun hb => ?_) <;> conv => whnf
            · have hjl : j < L.length := by omega
              have hgj := tblRows_get hjl
              repeat (first | refine gA ?_ | refine gB ?_ | refine gC rfl ?_ | refine gD rfl ?_ | ((first | refine gE env hN (by kernel_rfl) ?_ | refine gF ?_ | refine gG ?_ | refine gH fun hlen => ?_ | refine gI (by kernel_rfl) ?_ | refine And.intro rfl ?_ | refine And.intro (by omega) ?_ | refine gJ rfl ?_ | refine gK (by omega) ?_ | refine gL (by omega) ?_ | refine gK rfl ?_ | refine Or.inr ?_); conv => whnf))
              refine rowAt_of (by simpa using hgj) ?_
              conv => whnf
              repeat (first | refine gA ?_ | refine gB ?_ | refine gC rfl ?_ | refine gD rfl ?_ | ((first | refine gE env hN (by kernel_rfl) ?_ | refine gF ?_ | refine gG ?_ | refine gH fun hlen => ?_ | refine gI (by kernel_rfl) ?_ | refine And.intro rfl ?_ | refine And.intro (by omega) ?_ | refine gJ rfl ?_ | refine gK (by omega) ?_ | refine gL (by omega) ?_ | refine gK rfl ?_ | refine Or.inr ?_); conv => whnf))
              refine boolRes_split (fun hb => ?_) (fun hb => ?_) <;> conv => whnf
              · repeat (first | refine gA ?_ | refine gB ?_ | refine gC rfl ?_ | refine gD rfl ?_ | ((first | refine gE env hN (by kernel_rfl) ?_ | refine gF ?_ | refine gG ?_ | refine gH fun hlen => ?_ | refine gI (by kernel_rfl) ?_ | refine And.intro rfl ?_ | refine And.intro (by omega) ?_ | refine gJ rfl ?_ | refine gK (by omega) ?_ | refine gL (by omega) ?_ | refine gK rfl ?_ | refine Or.inr ?_); conv => whnf))
                refine ⟨_, _, ?_, ⟨j + 1, by omega, fun p hp h => ?_, rfl, rfl⟩, ⟨[(28, 28), (4, 4), (29, 29), (15, 15)], [], [], LeG.mk' rfl rfl rfl (by repeat' (first | exact trivial | exact ⟨_, .refl _, rfl⟩ | apply And.intro)) (.cons 28 rfl rfl (.refl _) rfl (.cons 4 rfl rfl (.refl _) rfl (.cons 29 rfl rfl (.refl _) rfl (.cons 15 rfl rfl (.refl _) rfl .nil)))) rfl rfl (by rw [hK]; rfl)⟩⟩
                · omega
                · by_cases e : p = j
                  · subst e; assumption
                  · exact hbelow p hp (by omega)
              · repeat (first | refine gA ?_ | refine gB ?_ | refine gC rfl ?_ | refine gD rfl ?_ | ((first | refine gE env hN (by kernel_rfl) ?_ | refine gF ?_ | refine gG ?_ | refine gH fun hlen => ?_ | refine gI (by kernel_rfl) ?_ | refine And.intro rfl ?_ | refine And.intro (by omega) ?_ | refine gJ rfl ?_ | refine gK (by omega) ?_ | refine gL (by omega) ?_ | refine gK rfl ?_ | refine Or.inr ?_); conv => whnf))
                refine rowAt_of (by simpa using hgj) ?_
                conv => whnf
                repeat (first | refine gA ?_ | refine gB ?_ | refine gC rfl ?_ | refine gD rfl ?_ | ((first | refine gE env hN (by kernel_rfl) ?_ | refine gF ?_ | refine gG ?_ | refine gH fun hlen => ?_ | refine gI (by kernel_rfl) ?_ | refine And.intro rfl ?_ | refine And.intro (by omega) ?_ | refine gJ rfl ?_ | refine gK (by omega) ?_ | refine gL (by omega) ?_ | refine gK rfl ?_ | refine Or.inr ?_); conv => whnf))
                refine boolRes_split (fun hb => ?_) (fun hb => ?_) <;> conv => whnf
                · have hst := (hput j (j + 1) (by omega) hbelow (fun p hp h => by
                    have := asc_get hSh.1 hjl hp (by omega)
                    omega) (fun p hp h1 h2 => by
                    have : p = j := by omega
                    subst this
                    assumption)).2
                  repeat (first | refine gA ?_ | refine gB ?_ | refine gC rfl ?_ | refine gD rfl ?_ | ((first | refine gE env hN (by kernel_rfl) ?_ | refine gF ?_ | refine gG ?_ | refine gH fun hlen => ?_ | refine gI (by kernel_rfl) ?_ | refine And.intro rfl ?_ | refine And.intro (by omega) ?_ | refine gJ rfl ?_ | refine gK (by omega) ?_ | refine gL (by omega) ?_ | refine gK rfl ?_ | refine Or.inr ?_); conv => whnf))
                  refine ⟨tblRows_sz _, ?_⟩
                  conv => whnf
                  repeat (first | refine gA ?_ | refine gB ?_ | refine gC rfl ?_ | refine gD rfl ?_ | ((first | refine gE env hN (by kernel_rfl) ?_ | refine gF ?_ | refine gG ?_ | refine gH fun hlen => ?_ | refine gI (by kernel_rfl) ?_ | refine And.intro rfl ?_ | refine And.intro (by omega) ?_ | refine gJ rfl ?_ | refine gK (by omega) ?_ | refine gL (by omega) ?_ | refine gK rfl ?_ | refine Or.inr ?_); conv => whnf))
                  refine ⟨⟨rowsSz_cons rfl rowsSz_nil, rowsSz_sub (tblRows_sz _), fun h => by cases h⟩, fitN (n := (List.drop (Int.toNat 0) (List.take (j : Int).toNat (tblRows L))).length + 1) (b := 48) (by simp; omega) (by omega), ?_⟩
                  conv => whnf
                  refine Or.inl ?_
                  conv => whnf
                  repeat (first | refine gA ?_ | refine gB ?_ | refine gC rfl ?_ | refine gD rfl ?_ | ((first | refine gE env hN (by kernel_rfl) ?_ | refine gF ?_ | refine gG ?_ | refine gH fun hlen => ?_ | refine gI (by kernel_rfl) ?_ | refine And.intro rfl ?_ | refine And.intro (by omega) ?_ | refine gJ rfl ?_ | refine gK (by omega) ?_ | refine gL (by omega) ?_ | refine gK rfl ?_ | refine Or.inr ?_); conv => whnf))
                  refine ⟨tblRows_sz _, ?_⟩
                  conv => whnf
                  repeat (first | refine gA ?_ | refine gB ?_ | refine gC rfl ?_ | refine gD rfl ?_ | ((first | refine gE env hN (by kernel_rfl) ?_ | refine gF ?_ | refine gG ?_ | refine gH fun hlen => ?_ | refine gI (by kernel_rfl) ?_ | refine And.intro rfl ?_ | refine And.intro (by omega) ?_ | refine gJ rfl ?_ | refine gK (by omega) ?_ | refine gL (by omega) ?_ | refine gK rfl ?_ | refine Or.inr ?_); conv => whnf))
                  refine ⟨⟨rowsSz_sub (tblRows_sz _), hlen3⟩, fitN (n := (List.drop (Int.toNat 0) (List.take (j : Int).toNat (tblRows L))).length + 1 + (List.drop ((j : Int) + 1).toNat (List.take ((tblRows L).length : Int).toNat (tblRows L))).length) (b := 48) (by simp; omega) (by omega), .inl ⟨rfl, rfl, ?_⟩⟩
                  conv => whnf
                  repeat (first | refine gA ?_ | refine gB ?_ | refine gC rfl ?_ | refine gD rfl ?_ | ((first | refine gE env hN (by kernel_rfl) ?_ | refine gF ?_ | refine gG ?_ | refine gH fun hlen => ?_ | refine gI (by kernel_rfl) ?_ | refine And.intro rfl ?_ | refine And.intro (by omega) ?_ | refine gJ rfl ?_ | refine gK (by omega) ?_ | refine gL (by omega) ?_ | refine gK rfl ?_); conv => whnf))
                  refine Or.inl ?_
                  conv => whnf
                  repeat (first | refine gA ?_ | refine gB ?_ | refine gC rfl ?_ | refine gD rfl ?_ | ((first | refine gE env hN (by kernel_rfl) ?_ | refine gF ?_ | refine gG ?_ | refine gH fun hlen => ?_ | refine gI (by kernel_rfl) ?_ | refine And.intro rfl ?_ | refine And.intro (by omega) ?_ | refine gJ rfl ?_ | refine gK (by omega) ?_ | refine gL (by omega) ?_ | refine gK rfl ?_); conv => whnf))
                  refine ⟨⟨rfl, hHl.symm⟩, fitN (n := H.length + 1) (b := 24) (by omega) (by omega), .inl ⟨rfl, rfl, ?_⟩⟩
                  conv => whnf
                  repeat (first | refine gA ?_ | refine gB ?_ | refine gC rfl ?_ | refine gD rfl ?_ | ((first | refine gE env hN (by kernel_rfl) ?_ | refine gF ?_ | refine gG ?_ | refine gH fun hlen => ?_ | refine gI (by kernel_rfl) ?_ | refine And.intro rfl ?_ | refine And.intro (by omega) ?_ | refine gJ rfl ?_ | refine gK (by omega) ?_ | refine gL (by omega) ?_ | refine gK rfl ?_ | refine Or.inr ?_); conv => whnf))
                  refine ⟨_, ⟨q3, c1, H ++ [L.take j ++ x :: L.drop (j + 1)], ⟨hst, t3, by omega, by simp⟩, rfl⟩, .trans (.unks 29 rfl) (.trans (.le (s' := ⟨[(3, .bp 28 0), (4, .bp 4 0), (5, .osl 29 0 0 (H ++ [L.take j ++ x :: L.drop (j + 1)]).length (H ++ [L.take j ++ x :: L.drop (j + 1)]).length), (6, .int .i64 k)], [(28, [diceB l (q3)]), (4, [.rows 3 [(c1).row] none]), (29, [.rows 1 (histRows (H ++ [L.take j ++ x :: L.drop (j + 1)])) none])], [28, 4, 29]⟩) (mp := [(28, 28), (4, 4), (29, 29)]) (bo := [97]) (LeG.mk' rfl rfl rfl ⟨⟨_, .refl _, rfl⟩, ⟨_, .refl _, rfl⟩, ⟨_, .refl _, congrArg (fun n => V.osl 29 0 0 n n) (by rw [List.length_append]; rfl)⟩, ⟨_, .refl _, rfl⟩, trivial⟩ (.cons 28 rfl rfl (.refl _) rfl (.cons 4 rfl rfl (.refl _) rfl (.cons 29 (b1 := .rows 1 (histRows H ++ [[V.sl (tblRows (L.take j ++ x :: L.drop (j + 1))) false]]) none) rfl rfl (.rows _ _ _ (RowsF.app (RowsF.same (histRows_one H)) ⟨⟨⟨hX1 ▸ Lent.whole rfl rfl (hlen4 _) rfl (.inl rfl), rfl⟩, trivial⟩, trivial⟩)) (by rw [histRows_app]; exact congrArg (fun r => [Blk.rows 1 r none]) (histRows_ren _).symm) .nil))) rfl rfl (by rw [hK]; rfl))) (.le (mp := [(28, 28), (4, 4), (29, 29)]) (bo := []) (LeG.mk' rfl rfl rfl (by repeat' (first | exact trivial | exact ⟨_, .refl _, rfl⟩ | apply And.intro)) (.cons 28 rfl rfl (.refl _) rfl (.cons 4 rfl rfl (.refl _) rfl (.cons 29 rfl rfl (.pure _ _ _ (histRows_pure _)) rfl .nil))) rfl rfl (by rw [hK]; rfl))))⟩
                · have hst := (hput j j (Nat.le_refl _) hbelow (fun p hp h => by
                    by_cases e : p = j
                    · subst e; omega
                    · have := asc_get hSh.1 hjl hp (by omega)
                      omega) (fun p hp h1 h2 => by omega)).2
                  repeat (first | refine gA ?_ | refine gB ?_ | refine gC rfl ?_ | refine gD rfl ?_ | ((first | refine gE env hN (by kernel_rfl) ?_ | refine gF ?_ | refine gG ?_ | refine gH fun hlen => ?_ | refine gI (by kernel_rfl) ?_ | refine And.intro rfl ?_ | refine And.intro (by omega) ?_ | refine gJ rfl ?_ | refine gK (by omega) ?_ | refine gL (by omega) ?_ | refine gK rfl ?_ | refine Or.inr ?_); conv => whnf))
                  refine ⟨tblRows_sz _, ?_⟩
                  conv => whnf
                  repeat (first | refine gA ?_ | refine gB ?_ | refine gC rfl ?_ | refine gD rfl ?_ | ((first | refine gE env hN (by kernel_rfl) ?_ | refine gF ?_ | refine gG ?_ | refine gH fun hlen => ?_ | refine gI (by kernel_rfl) ?_ | refine And.intro rfl ?_ | refine And.intro (by omega) ?_ | refine gJ rfl ?_ | refine gK (by omega) ?_ | refine gL (by omega) ?_ | refine gK rfl ?_ | refine Or.inr ?_); conv => whnf))
                  refine ⟨⟨rowsSz_cons rfl rowsSz_nil, rowsSz_sub (tblRows_sz _), fun h => by cases h⟩, fitN (n := (List.drop (Int.toNat 0) (List.take (j : Int).toNat (tblRows L))).length + 1) (b := 48) (by simp; omega) (by omega), ?_⟩
                  conv => whnf
                  refine Or.inl ?_
                  conv => whnf
                  repeat (first | refine gA ?_ | refine gB ?_ | refine gC rfl ?_ | refine gD rfl ?_ | ((first | refine gE env hN (by kernel_rfl) ?_ | refine gF ?_ | refine gG ?_ | refine gH fun hlen => ?_ | refine gI (by kernel_rfl) ?_ | refine And.intro rfl ?_ | refine And.intro (by omega) ?_ | refine gJ rfl ?_ | refine gK (by omega) ?_ | refine gL (by omega) ?_ | refine gK rfl ?_ | refine Or.inr ?_); conv => whnf))
                  refine ⟨tblRows_sz _, ?_⟩
                  conv => whnf
                  repeat (first | refine gA ?_ | refine gB ?_ | refine gC rfl ?_ | refine gD rfl ?_ | ((first | refine gE env hN (by kernel_rfl) ?_ | refine gF ?_ | refine gG ?_ | refine gH fun hlen => ?_ | refine gI (by kernel_rfl) ?_ | refine And.intro rfl ?_ | refine And.intro (by omega) ?_ | refine gJ rfl ?_ | refine gK (by omega) ?_ | refine gL (by omega) ?_ | refine gK rfl ?_ | refine Or.inr ?_); conv => whnf))
                  refine ⟨⟨rowsSz_sub (tblRows_sz _), hlen3⟩, fitN (n := (List.drop (Int.toNat 0) (List.take (j : Int).toNat (tblRows L))).length + 1 + (List.drop (j : Int).toNat (List.take ((tblRows L).length : Int).toNat (tblRows L))).length) (b := 48) (by simp; omega) (by omega), .inl ⟨rfl, rfl, ?_⟩⟩
                  conv => whnf
                  repeat (first | refine gA ?_ | refine gB ?_ | refine gC rfl ?_ | refine gD rfl ?_ | ((first | refine gE env hN (by kernel_rfl) ?_ | refine gF ?_ | refine gG ?_ | refine gH fun hlen => ?_ | refine gI (by kernel_rfl) ?_ | refine And.intro rfl ?_ | refine And.intro (by omega) ?_ | refine gJ rfl ?_ | refine gK (by omega) ?_ | refine gL (by omega) ?_ | refine gK rfl ?_); conv => whnf))
                  refine Or.inl ?_
                  conv => whnf
                  repeat (first | refine gA ?_ | refine gB ?_ | refine gC rfl ?_ | refine gD rfl ?_ | ((first | refine gE env hN (by kernel_rfl) ?_ | refine gF ?_ | refine gG ?_ | refine gH fun hlen => ?_ | refine gI (by kernel_rfl) ?_ | refine And.intro rfl ?_ | refine And.intro (by omega) ?_ | refine gJ rfl ?_ | refine gK (by omega) ?_ | refine gL (by omega) ?_ | refine gK rfl ?_); conv => whnf))
                  refine ⟨⟨rfl, hHl.symm⟩, fitN (n := H.length + 1) (b := 24) (by omega) (by omega), .inl ⟨rfl, rfl, ?_⟩⟩
                  conv => whnf
                  repeat (first | refine gA ?_ | refine gB ?_ | refine gC rfl ?_ | refine gD rfl ?_ | ((first | refine gE env hN (by kernel_rfl) ?_ | refine gF ?_ | refine gG ?_ | refine gH fun hlen => ?_ | refine gI (by kernel_rfl) ?_ | refine And.intro rfl ?_ | refine And.intro (by omega) ?_ | refine gJ rfl ?_ | refine gK (by omega) ?_ | refine gL (by omega) ?_ | refine gK rfl ?_ | refine Or.inr ?_); conv => whnf))
                  refine ⟨_, ⟨q3, c1, H ++ [L.take j ++ x :: L.drop j], ⟨hst, t3, by omega, by simp⟩, rfl⟩, .trans (.unks 29 rfl) (.trans (.le (s' := ⟨[(3, .bp 28 0), (4, .bp 4 0), (5, .osl 29 0 0 (H ++ [L.take j ++ x :: L.drop j]).length (H ++ [L.take j ++ x :: L.drop j]).length), (6, .int .i64 k)], [(28, [diceB l (q3)]), (4, [.rows 3 [(c1).row] none]), (29, [.rows 1 (histRows (H ++ [L.take j ++ x :: L.drop j])) none])], [28, 4, 29]⟩) (mp := [(28, 28), (4, 4), (29, 29)]) (bo := [97]) (LeG.mk' rfl rfl rfl ⟨⟨_, .refl _, rfl⟩, ⟨_, .refl _, rfl⟩, ⟨_, .refl _, congrArg (fun n => V.osl 29 0 0 n n) (by rw [List.length_append]; rfl)⟩, ⟨_, .refl _, rfl⟩, trivial⟩ (.cons 28 rfl rfl (.refl _) rfl (.cons 4 rfl rfl (.refl _) rfl (.cons 29 (b1 := .rows 1 (histRows H ++ [[V.sl (tblRows (L.take j ++ x :: L.drop j)) false]]) none) rfl rfl (.rows _ _ _ (RowsF.app (RowsF.same (histRows_one H)) ⟨⟨⟨hX0 ▸ Lent.whole rfl rfl (hlen4 _) rfl (.inl rfl), rfl⟩, trivial⟩, trivial⟩)) (by rw [histRows_app]; exact congrArg (fun r => [Blk.rows 1 r none]) (histRows_ren _).symm) .nil))) rfl rfl (by rw [hK]; rfl))) (.le (mp := [(28, 28), (4, 4), (29, 29)]) (bo := []) (LeG.mk' rfl rfl rfl (by repeat' (first | exact trivial | exact ⟨_, .refl _, rfl⟩ | apply And.intro)) (.cons 28 rfl rfl (.refl _) rfl (.cons 4 rfl rfl (.refl _) rfl (.cons 29 rfl rfl (.pure _ _ _ (histRows_pure _)) rfl .nil))) rfl rfl (by rw [hK]; rfl))))⟩
            · have hst := (hput j j (Nat.le_refl _) hbelow (fun p hp h => by omega) (fun p hp h1 h2 => by omega)).2
              repeat (first | refine gA ?_ | refine gB ?_ | refine gC rfl ?_ | refine gD rfl ?_ | ((first | refine gE env hN (by kernel_rfl) ?_ | refine gF ?_ | refine gG ?_ | refine gH fun hlen => ?_ | refine gI (by kernel_rfl) ?_ | refine And.intro rfl ?_ | refine And.intro (by omega) ?_ | refine gJ rfl ?_ | refine gK (by omega) ?_ | refine gL (by omega) ?_ | refine gK rfl ?_ | refine Or.inr ?_); conv => whnf))
              refine ⟨tblRows_sz _, ?_⟩
              conv => whnf
              repeat (first | refine gA ?_ | refine gB ?_ | refine gC rfl ?_ | refine gD rfl ?_ | ((first | refine gE env hN (by kernel_rfl) ?_ | refine gF ?_ | refine gG ?_ | refine gH fun hlen => ?_ | refine gI (by kernel_rfl) ?_ | refine And.intro rfl ?_ | refine And.intro (by omega) ?_ | refine gJ rfl ?_ | refine gK (by omega) ?_ | refine gL (by omega) ?_ | refine gK rfl ?_ | refine Or.inr ?_); conv => whnf))
              refine ⟨⟨rowsSz_cons rfl rowsSz_nil, rowsSz_sub (tblRows_sz _), fun h => by cases h⟩, fitN (n := (List.drop (Int.toNat 0) (List.take (j : Int).toNat (tblRows L))).length + 1) (b := 48) (by simp; omega) (by omega), ?_⟩
              conv => whnf
              refine Or.inl ?_
              conv => whnf
              repeat (first | refine gA ?_ | refine gB ?_ | refine gC rfl ?_ | refine gD rfl ?_ | ((first | refine gE env hN (by kernel_rfl) ?_ | refine gF ?_ | refine gG ?_ | refine gH fun hlen => ?_ | refine gI (by kernel_rfl) ?_ | refine And.intro rfl ?_ | refine And.intro (by omega) ?_ | refine gJ rfl ?_ | refine gK (by omega) ?_ | refine gL (by omega) ?_ | refine gK rfl ?_ | refine Or.inr ?_); conv => whnf))
              refine ⟨tblRows_sz _, ?_⟩
              conv => whnf
              repeat (first | refine gA ?_ | refine gB ?_ | refine gC rfl ?_ | refine gD rfl ?_ | ((first | refine gE env hN (by kernel_rfl) ?_ | refine gF ?_ | refine gG ?_ | refine gH fun hlen => ?_ | refine gI (by kernel_rfl) ?_ | refine And.intro rfl ?_ | refine And.intro (by omega) ?_ | refine gJ rfl ?_ | refine gK (by omega) ?_ | refine gL (by omega) ?_ | refine gK rfl ?_ | refine Or.inr ?_); conv => whnf))
              refine ⟨⟨rowsSz_sub (tblRows_sz _), hlen3⟩, fitN (n := (List.drop (Int.toNat 0) (List.take (j : Int).toNat (tblRows L))).length + 1 + (List.drop (j : Int).toNat (List.take ((tblRows L).length : Int).toNat (tblRows L))).length) (b := 48) (by simp; omega) (by omega), .inl ⟨rfl, rfl, ?_⟩⟩
              conv => whnf
              repeat (first | refine gA ?_ | refine gB ?_ | refine gC rfl ?_ | refine gD rfl ?_ | ((first | refine gE env hN (by kernel_rfl) ?_ | refine gF ?_ | refine gG ?_ | refine gH fun hlen => ?_ | refine gI (by kernel_rfl) ?_ | refine And.intro rfl ?_ | refine And.intro (by omega) ?_ | refine gJ rfl ?_ | refine gK (by omega) ?_ | refine gL (by omega) ?_ | refine gK rfl ?_); conv => whnf))
              refine Or.inl ?_
              conv => whnf
              repeat (first | refine gA ?_ | refine gB ?_ | refine gC rfl ?_ | refine gD rfl ?_ | ((first | refine gE env hN (by kernel_rfl) ?_ | refine gF ?_ | refine gG ?_ | refine gH fun hlen => ?_ | refine gI (by kernel_rfl) ?_ | refine And.intro rfl ?_ | refine And.intro (by omega) ?_ | refine gJ rfl ?_ | refine gK (by omega) ?_ | refine gL (by omega) ?_ | refine gK rfl ?_); conv => whnf))
              refine ⟨⟨rfl, hHl.symm⟩, fitN (n := H.length + 1) (b := 24) (by omega) (by omega), .inl ⟨rfl, rfl, ?_⟩⟩
              conv => whnf
              repeat (first | refine gA ?_ | refine gB ?_ | refine gC rfl ?_ | refine gD rfl ?_ | ((first | refine gE env hN (by kernel_rfl) ?_ | refine gF ?_ | refine gG ?_ | refine gH fun hlen => ?_ | refine gI (by kernel_rfl) ?_ | refine And.intro rfl ?_ | refine And.intro (by omega) ?_ | refine gJ rfl ?_ | refine gK (by omega) ?_ | refine gL (by omega) ?_ | refine gK rfl ?_ | refine Or.inr ?_); conv => whnf))
              refine ⟨_, ⟨q3, c1, H ++ [L.take j ++ x :: L.drop j], ⟨hst, t3, by omega, by simp⟩, rfl⟩, .trans (.unks 29 rfl) (.trans (.le (s' := ⟨[(3, .bp 28 0), (4, .bp 4 0), (5, .osl 29 0 0 (H ++ [L.take j ++ x :: L.drop j]).length (H ++ [L.take j ++ x :: L.drop j]).length), (6, .int .i64 k)], [(28, [diceB l (q3)]), (4, [.rows 3 [(c1).row] none]), (29, [.rows 1 (histRows (H ++ [L.take j ++ x :: L.drop j])) none])], [28, 4, 29]⟩) (mp := [(28, 28), (4, 4), (29, 29)]) (bo := [97]) (LeG.mk' rfl rfl rfl ⟨⟨_, .refl _, rfl⟩, ⟨_, .refl _, rfl⟩, ⟨_, .refl _, congrArg (fun n => V.osl 29 0 0 n n) (by rw [List.length_append]; rfl)⟩, ⟨_, .refl _, rfl⟩, trivial⟩ (.cons 28 rfl rfl (.refl _) rfl (.cons 4 rfl rfl (.refl _) rfl (.cons 29 (b1 := .rows 1 (histRows H ++ [[V.sl (tblRows (L.take j ++ x :: L.drop j)) false]]) none) rfl rfl (.rows _ _ _ (RowsF.app (RowsF.same (histRows_one H)) ⟨⟨⟨hX0 ▸ Lent.whole rfl rfl (hlen4 _) rfl (.inl rfl), rfl⟩, trivial⟩, trivial⟩)) (by rw [histRows_app]; exact congrArg (fun r => [Blk.rows 1 r none]) (histRows_ren _).symm) .nil))) rfl rfl (by rw [hK]; rfl))) (.le (mp := [(28, 28), (4, 4), (29, 29)]) (bo := []) (LeG.mk' rfl rfl rfl (by repeat' (first | exact trivial | exact ⟨_, .refl _, rfl⟩ | apply And.intro)) (.cons 28 rfl rfl (.refl _) rfl (.cons 4 rfl rfl (.refl _) rfl (.cons 29 rfl rfl (.pure _ _ _ (histRows_pure _)) rfl .nil))) rfl rfl (by rw [hK]; rfl))))⟩
      · rintro s ⟨q', c', H', ⟨hs', hq', hk', hH'⟩, rfl⟩
        have hHl' := histRows_len H'
        have htop' := hs'.top
        have hver' := hs'.ver
        have hitl' := hs'.len
        obtain ⟨hc1, _, _⟩ := (collB_iff c').1 hs'.ok
        have spV := snapValid_spec c'
        rw [hs'.ok] at spV
        have hverN : c'.version = (H'.length : Int) - 1 := by omega
        repeat (first | refine gA ?_ | refine gB ?_ | refine gC rfl ?_ | refine gD rfl ?_ | ((first | refine gE env hN (by kernel_rfl) ?_ | refine gF ?_ | refine gG ?_ | refine gH fun hlen => ?_ | refine gI (by kernel_rfl) ?_ | refine And.intro rfl ?_ | refine And.intro (by omega) ?_ | refine gJ rfl ?_ | refine gK (by omega) ?_ | refine gL (by omega) ?_ | refine gK rfl ?_ | refine Or.inr ?_); conv => whnf))
        (refine ⟨_, _, _, callG [] [] [] rfl rfl rfl (by kernel_rfl) (spV) (by repeat' (first | exact trivial | exact Lent.refl _ | exact Lent.norm _ | apply And.intro)) rfl ⟨rfl, rfl, rfl, rfl, rfl, trivial, rfl, rfl⟩, ?_⟩; conv => whnf)
        repeat (first | refine gA ?_ | refine gB ?_ | refine gC rfl ?_ | refine gD rfl ?_ | ((first | refine gE env hN (by kernel_rfl) ?_ | refine gF ?_ | refine gG ?_ | refine gH fun hlen => ?_ | refine gI (by kernel_rfl) ?_ | refine And.intro rfl ?_ | refine And.intro (by omega) ?_ | refine gJ rfl ?_ | refine gK (by omega) ?_ | refine gL (by omega) ?_ | refine gK rfl ?_ | refine Or.inr ?_); conv => whnf))
        refine W.loopG (fun n st => ∃ v : Int, -1 ≤ v ∧ v ≤ c'.version + 2 ∧ n = (c'.version + 2 - v).toNat ∧ st = ⟨[(3, .bp 28 0), (4, .bp 4 0), (5, .osl 29 0 0 H'.length H'.length), (6, .int .i64 k), (20, .int .i64 v)], [(28, [diceB l q']), (4, [.rows 3 [c'.row] none]), (29, [.rows 1 (histRows H') (some [])])], [28, 4, 29]⟩)
          (c'.version + 3).toNat _ ⟨-1, by omega, by omega, by congr 1; omega, rfl⟩ ⟨[(28, 28), (4, 4), (29, 29)], [], [], LeG.mk' rfl rfl rfl (by repeat' (first | exact trivial | exact ⟨_, .refl _, rfl⟩ | apply And.intro)) (.cons 28 rfl rfl (.refl _) rfl (.cons 4 rfl rfl (.refl _) rfl (.cons 29 rfl rfl (.refl _) rfl .nil))) rfl rfl (by rw [hK]; rfl)⟩ ?_
        rintro n st ⟨v, hv1, hv2, rfl, rfl⟩
        have spAt := at_spec c' v (by omega)
        repeat (first | refine gA ?_ | refine gB ?_ | refine gC rfl ?_ | refine gD rfl ?_ | ((first | refine gE env hN (by kernel_rfl) ?_ | refine gF ?_ | refine gG ?_ | refine gH fun hlen => ?_ | refine gI (by kernel_rfl) ?_ | refine And.intro rfl ?_ | refine And.intro (by omega) ?_ | refine gJ rfl ?_ | refine gK (by omega) ?_ | refine gL (by omega) ?_ | refine gK rfl ?_ | refine Or.inr ?_); conv => whnf))
        refine boolRes_split (fun hb => ?_) (fun hb => ?_) <;> conv => whnf
        · by_cases hout : v < c'.oldest ∨ c'.version < v
          · have hat : atM c' v = ([], 23) := by simp [atM, hs'.ok, hout]
            rw [hat] at spAt
            dsimp only at spAt
            repeat (first | refine gA ?_ | refine gB ?_ | refine gC rfl ?_ | refine gD rfl ?_ | ((first | refine gE env hN (by kernel_rfl) ?_ | refine gF ?_ | refine gG ?_ | refine gH fun hlen => ?_ | refine gI (by kernel_rfl) ?_ | refine And.intro rfl ?_ | refine And.intro (by omega) ?_ | refine gJ rfl ?_ | refine gK (by omega) ?_ | refine gL (by omega) ?_ | refine gK rfl ?_ | refine Or.inr ?_); conv => whnf))
            (refine ⟨_, _, _, callG [] [] [] rfl rfl rfl (by kernel_rfl) (spAt) (by repeat' (first | exact trivial | exact Lent.refl _ | exact Lent.norm _ | apply And.intro)) rfl ⟨rfl, rfl, rfl, rfl, rfl, trivial, rfl, rfl⟩, ?_⟩; conv => whnf)
            repeat (first | refine gA ?_ | refine gB ?_ | refine gC rfl ?_ | refine gD rfl ?_ | ((first | refine gE env hN (by kernel_rfl) ?_ | refine gF ?_ | refine gG ?_ | refine gH fun hlen => ?_ | refine gI (by kernel_rfl) ?_ | refine And.intro rfl ?_ | refine And.intro (by omega) ?_ | refine gJ rfl ?_ | refine gK (by omega) ?_ | refine gL (by omega) ?_ | refine gK rfl ?_ | refine Or.inr ?_); conv => whnf))
            refine boolRes_split (fun hb => ?_) (fun hb => ?_) <;> conv => whnf
            · skip
              repeat (first | refine gA ?_ | refine gB ?_ | refine gC rfl ?_ | refine gD rfl ?_ | ((first | refine gE env hN (by kernel_rfl) ?_ | refine gF ?_ | refine gG ?_ | refine gH fun hlen => ?_ | refine gI (by kernel_rfl) ?_ | refine And.intro rfl ?_ | refine And.intro (by omega) ?_ | refine gJ rfl ?_ | refine gK (by omega) ?_ | refine gL (by omega) ?_ | refine gK rfl ?_ | refine Or.inr ?_); conv => whnf))
              refine gL (by simp [tblRows]) ?_
              conv => whnf
              repeat (first | refine gA ?_ | refine gB ?_ | refine gC rfl ?_ | refine gD rfl ?_ | ((first | refine gE env hN (by kernel_rfl) ?_ | refine gF ?_ | refine gG ?_ | refine gH fun hlen => ?_ | refine gI (by kernel_rfl) ?_ | refine And.intro rfl ?_ | refine And.intro (by omega) ?_ | refine gJ rfl ?_ | refine gK (by omega) ?_ | refine gL (by omega) ?_ | refine gK rfl ?_ | refine Or.inr ?_); conv => whnf))
              exact ⟨_, _, by omega, ⟨v + 1, by omega, by omega, rfl, rfl⟩, ⟨[(28, 28), (4, 4), (29, 29)], [], [], LeG.mk' rfl rfl rfl (by repeat' (first | exact trivial | exact ⟨_, .refl _, rfl⟩ | apply And.intro)) (.cons 28 rfl rfl (.refl _) rfl (.cons 4 rfl rfl (.refl _) rfl (.cons 29 rfl rfl (.refl _) rfl .nil))) rfl rfl (by rw [hK]; rfl)⟩⟩
            · repeat (first | refine gA ?_ | refine gB ?_ | refine gC rfl ?_ | refine gD rfl ?_ | ((first | refine gE env hN (by kernel_rfl) ?_ | refine gF ?_ | refine gG ?_ | refine gH fun hlen => ?_ | refine gI (by kernel_rfl) ?_ | refine And.intro rfl ?_ | refine And.intro (by omega) ?_ | refine gJ rfl ?_ | refine gK (by omega) ?_ | refine gL (by omega) ?_ | refine gK rfl ?_ | refine Or.inr ?_); conv => whnf))
              repeat (first | refine gA ?_ | refine gB ?_ | refine gC rfl ?_ | refine gD rfl ?_ | ((first | refine gE env hN (by kernel_rfl) ?_ | refine gF ?_ | refine gG ?_ | refine gH fun hlen => ?_ | refine gI (by kernel_rfl) ?_ | refine And.intro rfl ?_ | refine And.intro (by omega) ?_ | refine gJ rfl ?_ | refine gK (by omega) ?_ | refine gL (by omega) ?_ | refine gK rfl ?_ | refine Or.inr ?_); conv => whnf))
              refine gL (by simp [tblRows]) ?_
              conv => whnf
              repeat (first | refine gA ?_ | refine gB ?_ | refine gC rfl ?_ | refine gD rfl ?_ | ((first | refine gE env hN (by kernel_rfl) ?_ | refine gF ?_ | refine gG ?_ | refine gH fun hlen => ?_ | refine gI (by kernel_rfl) ?_ | refine And.intro rfl ?_ | refine And.intro (by omega) ?_ | refine gJ rfl ?_ | refine gK (by omega) ?_ | refine gL (by omega) ?_ | refine gK rfl ?_ | refine Or.inr ?_); conv => whnf))
              exact ⟨_, _, by omega, ⟨v + 1, by omega, by omega, rfl, rfl⟩, ⟨[(28, 28), (4, 4), (29, 29)], [], [], LeG.mk' rfl rfl rfl (by repeat' (first | exact trivial | exact ⟨_, .refl _, rfl⟩ | apply And.intro)) (.cons 28 rfl rfl (.refl _) rfl (.cons 4 rfl rfl (.refl _) rfl (.cons 29 rfl rfl (.refl _) rfl .nil))) rfl rfl (by rw [hK]; rfl)⟩⟩
          · have hat := atM_ok (c := c') (v := v) hs'.ok (by omega)
            rw [hat] at spAt
            dsimp only at spAt
            obtain ⟨w, rfl⟩ : ∃ w : Nat, v = w := ⟨v.toNat, by omega⟩
            have hwl : w < H'.length := by omega
            have hsh := (hs'.shows w (by omega) hwl).sort hs'.ok
            have hgw := histRows_get (List.getElem?_eq_getElem hwl)
            rw [hsh] at spAt
            have spS := sameTables_spec H'[w] H'[w]
            rw [decide_eq_true (rfl : H'[w] = H'[w])] at spS
            generalize H'[w] = M at *
            repeat (first | refine gA ?_ | refine gB ?_ | refine gC rfl ?_ | refine gD rfl ?_ | ((first | refine gE env hN (by kernel_rfl) ?_ | refine gF ?_ | refine gG ?_ | refine gH fun hlen => ?_ | refine gI (by kernel_rfl) ?_ | refine And.intro rfl ?_ | refine And.intro (by omega) ?_ | refine gJ rfl ?_ | refine gK (by omega) ?_ | refine gL (by omega) ?_ | refine gK rfl ?_ | refine Or.inr ?_); conv => whnf))
            (refine ⟨_, _, _, callG [] [] [] rfl rfl rfl (by kernel_rfl) (spAt) (by repeat' (first | exact trivial | exact Lent.refl _ | exact Lent.norm _ | apply And.intro)) rfl ⟨rfl, rfl, rfl, rfl, rfl, trivial, rfl, rfl⟩, ?_⟩; conv => whnf)
            repeat (first | refine gA ?_ | refine gB ?_ | refine gC rfl ?_ | refine gD rfl ?_ | ((first | refine gE env hN (by kernel_rfl) ?_ | refine gF ?_ | refine gG ?_ | refine gH fun hlen => ?_ | refine gI (by kernel_rfl) ?_ | refine And.intro rfl ?_ | refine And.intro (by omega) ?_ | refine gJ rfl ?_ | refine gK (by omega) ?_ | refine gL (by omega) ?_ | refine gK rfl ?_ | refine Or.inr ?_); conv => whnf))
            refine rowAt_of (by simpa using hgw) ?_
            conv => whnf
            repeat (first | refine gA ?_ | refine gB ?_ | refine gC rfl ?_ | refine gD rfl ?_ | ((first | refine gE env hN (by kernel_rfl) ?_ | refine gF ?_ | refine gG ?_ | refine gH fun hlen => ?_ | refine gI (by kernel_rfl) ?_ | refine And.intro rfl ?_ | refine And.intro (by omega) ?_ | refine gJ rfl ?_ | refine gK (by omega) ?_ | refine gL (by omega) ?_ | refine gK rfl ?_ | refine Or.inr ?_); conv => whnf))
            (refine ⟨_, _, _, callG [] [] [] rfl rfl rfl (by kernel_rfl) (spS) (by repeat' (first | exact trivial | exact Lent.refl _ | exact Lent.norm _ | apply And.intro)) rfl ⟨rfl, rfl, rfl, rfl, rfl, trivial, rfl, rfl⟩, ?_⟩; conv => whnf)
            repeat (first | refine gA ?_ | refine gB ?_ | refine gC rfl ?_ | refine gD rfl ?_ | ((first | refine gE env hN (by kernel_rfl) ?_ | refine gF ?_ | refine gG ?_ | refine gH fun hlen => ?_ | refine gI (by kernel_rfl) ?_ | refine And.intro rfl ?_ | refine And.intro (by omega) ?_ | refine gJ rfl ?_ | refine gK (by omega) ?_ | refine gL (by omega) ?_ | refine gK rfl ?_ | refine Or.inr ?_); conv => whnf))
            exact ⟨_, _, by omega, ⟨(w : Int) + 1, by omega, by omega, rfl, rfl⟩, ⟨[(28, 28), (4, 4), (29, 29)], [], [], LeG.mk' rfl rfl rfl (by repeat' (first | exact trivial | exact ⟨_, .refl _, rfl⟩ | apply And.intro)) (.cons 28 rfl rfl (.refl _) rfl (.cons 4 rfl rfl (.refl _) rfl (.cons 29 rfl rfl (.refl _) rfl .nil))) rfl rfl (by rw [hK]; rfl)⟩⟩
        · repeat (first | refine gA ?_ | refine gB ?_ | refine gC rfl ?_ | refine gD rfl ?_ | ((first | refine gE env hN (by kernel_rfl) ?_ | refine gF ?_ | refine gG ?_ | refine gH fun hlen => ?_ | refine gI (by kernel_rfl) ?_ | refine And.intro rfl ?_ | refine And.intro (by omega) ?_ | refine gJ rfl ?_ | refine gK (by omega) ?_ | refine gL (by omega) ?_ | refine gK rfl ?_ | refine Or.inr ?_); conv => whnf))
          refine ⟨_, _, ?_, ⟨k + 1, q', c', H', ⟨hs', hq', hk', hH'⟩, rfl, rfl⟩, .le (mp := [(28, 28), (4, 4), (29, 29)]) (bo := []) (LeG.mk' rfl rfl rfl (by repeat' (first | exact trivial | exact ⟨_, .refl _, rfl⟩ | apply And.intro)) (.cons 28 rfl rfl (.refl _) rfl (.cons 4 rfl rfl (.refl _) rfl (.cons 29 rfl rfl (.refl _) rfl .nil))) rfl rfl (by rw [hK]; rfl))⟩
          omega
    · repeat (first | refine gA ?_ | refine gB ?_ | refine gC rfl ?_ | refine gD rfl ?_ | ((first | refine gE env hN (by kernel_rfl) ?_ | refine gF ?_ | refine gG ?_ | refine gH fun hlen => ?_ | refine gI (by kernel_rfl) ?_ | refine And.intro rfl ?_ | refine And.intro (by omega) ?_ | refine gJ rfl ?_ | refine gK (by omega) ?_ | refine gL (by omega) ?_ | refine gK rfl ?_ | refine Or.inr ?_); conv => whnf))
      (refine ⟨_, _, _, callG [] [] [] rfl rfl rfl (by kernel_rfl) (spA) (by repeat' (first | exact trivial | exact Lent.refl _ | exact Lent.norm _ | apply And.intro)) rfl ⟨rfl, rfl, rfl, rfl, rfl, trivial, rfl, rfl⟩, ?_⟩; conv => whnf)
      repeat (first | refine gA ?_ | refine gB ?_ | refine gC rfl ?_ | refine gD rfl ?_ | ((first | refine gE env hN (by kernel_rfl) ?_ | refine gF ?_ | refine gG ?_ | refine gH fun hlen => ?_ | refine gI (by kernel_rfl) ?_ | refine And.intro rfl ?_ | refine And.intro (by omega) ?_ | refine gJ rfl ?_ | refine gK (by omega) ?_ | refine gL (by omega) ?_ | refine gK rfl ?_ | refine Or.inr ?_ | refine gM ?_); conv => whnf))
      exact ret0 rfl rfl rfl
  · rw [decide_eq_false hll] at spL
    repeat (first | refine gA ?_ | refine gB ?_ | refine gC rfl ?_ | refine gD rfl ?_ | ((first | refine gE env hN (by kernel_rfl) ?_ | refine gF ?_ | refine gG ?_ | refine gH fun hlen => ?_ | refine gI (by kernel_rfl) ?_ | refine And.intro rfl ?_ | refine And.intro (by omega) ?_ | refine gJ rfl ?_ | refine gK (by omega) ?_ | refine gL (by omega) ?_ | refine gK rfl ?_ | refine Or.inr ?_); conv => whnf))
    (refine ⟨_, _, _, callG [] [] [] rfl rfl rfl (by kernel_rfl) (spL) (by repeat' (first | exact trivial | exact Lent.refl _ | exact Lent.norm _ | apply And.intro)) rfl ⟨rfl, rfl, rfl, rfl, rfl, trivial, rfl, rfl⟩, ?_⟩; conv => whnf)
    repeat (first | refine gA ?_ | refine gB ?_ | refine gC rfl ?_ | refine gD rfl ?_ | ((first | refine gE env hN (by kernel_rfl) ?_ | refine gF ?_ | refine gG ?_ | refine gH fun hlen => ?_ | refine gI (by kernel_rfl) ?_ | refine And.intro rfl ?_ | refine And.intro (by omega) ?_ | refine gJ rfl ?_ | refine gK (by omega) ?_ | refine gL (by omega) ?_ | refine gK rfl ?_ | refine Or.inr ?_); conv => whnf))
    (refine ⟨_, _, _, callG [] [] [] rfl rfl rfl (by kernel_rfl) (spA) (by repeat' (first | exact trivial | exact Lent.refl _ | exact Lent.norm _ | apply And.intro)) rfl ⟨rfl, rfl, rfl, rfl, rfl, trivial, rfl, rfl⟩, ?_⟩; conv => whnf)
    repeat (first | refine gA ?_ | refine gB ?_ | refine gC rfl ?_ | refine gD rfl ?_ | ((first | refine gE env hN (by kernel_rfl) ?_ | refine gF ?_ | refine gG ?_ | refine gH fun hlen => ?_ | refine gI (by kernel_rfl) ?_ | refine And.intro rfl ?_ | refine And.intro (by omega) ?_ | refine gJ rfl ?_ | refine gK (by omega) ?_ | refine gL (by omega) ?_ | refine gK rfl ?_ | refine Or.inr ?_ | refine gM ?_); conv => whnf))
    exact ret0 rfl rfl rfl
theorem stays_calls {w : World} {v0 : Value} {u0 : V} (r0 : VRel w (fun _ => False) (fun _ _ => none) u0 v0) (a0 : argShape T 2 22 u0) (hg : GRel w (fun _ => False)) :
    Calls Tryd.prog 10 #[v0] w fun e w' => e = .returned (.bool true) ∧ Go.RowKit.Below w.heap.size w w' := by
  obtain ⟨l, rfl⟩ := arg_ints a0
  refine Spec.law (stays_law l) (cargs := [v0]) rfl (fun j u c hj hc => ?_) rfl hg
  match j with
  | 0 => cases hj; cases hc; exact r0
  | j + 1 => cases hj
end Go.Sx.Sp
