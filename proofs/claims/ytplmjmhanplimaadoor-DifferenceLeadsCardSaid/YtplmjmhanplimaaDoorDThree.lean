/- Differences that follow each other, and that lead there and back. -/
import Derived.Test.YtplmjmhanplimaaDoorDTwo
import Derived.Test.YtplmjmhanplimaaDoorSxFour
set_option linter.unusedVariables false
set_option linter.unusedSimpArgs false
namespace Go.Sx.Sp
open Go Go.Sx Go.Proofs
attribute [local irreducible] GoodW
theorem rowOf_inj {p q : Pair} (h : rowOf p = rowOf q) : p = q := by
  simp only [rowOf, valC, keyC, cellOf, List.cons.injEq, Cell.mk.injEq, true_and, and_true] at h
  exact Prod.ext h.2 h.1
theorem pair_diff {i j : Int} {A B : List Pair} (g : PairOK B) (n : Nat) (hn : n < A.length) : diffB (pairT i A) (pairT j B) 1 (cellI (colK (pairT i A) 1) n).text n = decide (A[n] ∉ B) := by
  have e1 : (cellI (colK (pairT i A) 1) n).text = A[n].1 := by rw [pair_col]; simp [cellI, hn, keyC, cellOf]
  rw [e1]
  unfold diffB
  rw [pair_texts]
  cases hx : ixS A[n].1 (B.map Prod.fst) with
  | none =>
    have := ixS_none.1 hx
    have h2 : A[n] ∉ B := fun h => this (List.mem_map_of_mem h)
    simp [h2]
  | some m =>
    have h1 := ixS_some hx
    obtain ⟨hm, h2⟩ := List.getElem?_eq_some_iff.1 h1
    have hm' : m < B.length := by simpa using hm
    rw [List.getElem_map] at h2
    simp only
    rw [pair_row i hn, pair_row j hm']
    by_cases h : A[n] ∈ B
    · have e := g.uniq h (List.getElem_mem hm') h2.symm
      simp [h, e]
    · have hne : rowOf A[n] ≠ rowOf B[m] := fun e => h (by rw [rowOf_inj e]; exact List.getElem_mem hm')
      simp [h, hne]
def outP (A B : List Pair) : List Pair := A.filter fun p => decide (p ∉ B)
theorem pair_drop {i j : Int} {A B : List Pair} (g : PairOK B) : dropOf (pairT i A) (pairT j B) 1 (List.range (colK (pairT i A) 1).length) = (outP A B).map keyC := by
  unfold dropOf outP
  rw [pair_col, List.length_map]
  exact range_fm (fun n hn => pair_diff g n hn) (fun n hn => by simp [cellI, hn])
theorem pair_add {i j : Int} {A B : List Pair} (h : PairOK A) : addOf (pairT i A) (pairT j B) 1 (List.range (colK (pairT j B) 1).length) = (outP B A).map rowOf := by
  unfold addOf outP
  rw [show (colK (pairT j B) 1).length = B.length by rw [pair_col, List.length_map]]
  exact range_fm (fun n hn => pair_diff h n hn) (fun n hn => pair_row j hn)
end Go.Sx.Sp
namespace Go.Sx.Sp
open Go Go.Sx Go.Proofs
attribute [local irreducible] GoodW
theorem placeK_map {α β : Type} (key : β → Str) (f : α → β) (l : List α) (t : Str) : ∀ n, placeK key (l.map f) t n = placeK (fun x => key (f x)) l t n
  | 0 => rfl
  | n + 1 => by
    simp only [placeK, List.getElem?_map]
    cases h : l[n]? with
    | none => simp
    | some x => simp [placeK_map key f l t n]
theorem insK_map {α β : Type} (key : β → Str) (f : α → β) (l : List α) (x : α) : insK key (l.map f) (f x) = (insK (fun x => key (f x)) l x).map f := by
  unfold insK
  rw [placeK_map, List.length_map]
  simp [List.map_take, List.map_drop]
theorem sortK_map {α β : Type} (key : β → Str) (f : α → β) (l : List α) : sortK key (l.map f) = (sortK (fun x => key (f x)) l).map f := by
  have go : ∀ (l acc : List α), (l.map f).foldl (insK key) (acc.map f) = (l.foldl (insK fun x => key (f x)) acc).map f := by
    intro l
    induction l with
    | nil => intro acc; rfl
    | cons x l ih => intro acc; rw [List.map_cons, List.foldl_cons, List.foldl_cons, insK_map, ih]
  exact go l []
def sortP (l : List Pair) : List Pair := sortK Prod.fst l
def leadD (A B : List Pair) : Delta := dlt ((sortP (outP A B)).map Prod.fst) (sortP (outP B A))
theorem pair_of {i j : Int} {A B : List Pair} (h : PairOK A) (g : PairOK B) (hi : 0 ≤ i ∧ i ≤ 1073741824) (hj : 0 ≤ j ∧ j ≤ 1073741824) : ofM (pairT i A) (pairT j B) 1 = (leadD A B, 0) := by
  have hd : diffM (pairT i A) (pairT j B) 1 = leadD A B := by
    unfold diffM leadD dlt
    rw [pair_drop g, pair_add h, sortK_map, sortK_map]
    rw [List.map_map]
    rfl
  unfold ofM
  rw [if_pos ⟨pair_valid h hi, pair_valid g hj, rfl⟩, if_pos (pair_check2 h g), show (1 : Int).toNat = 1 from rfl, hd]
theorem mem_outP {A B : List Pair} {p : Pair} : p ∈ outP A B ↔ p ∈ A ∧ p ∉ B := by unfold outP; simp
theorem mem_sortP {l : List Pair} {p : Pair} : p ∈ sortP l ↔ p ∈ l := sortK_mem _ _ _
end Go.Sx.Sp
namespace Go.Sx.Sp
open Go Go.Sx Go.Proofs
attribute [local irreducible] GoodW
theorem PairOK.filter {A : List Pair} (h : PairOK A) (p : Pair → Bool) : PairOK (A.filter p) :=
  ⟨h.nd.sublist (List.filter_sublist.map _), fun q hq => h.kw q (List.mem_filter.1 hq).1, fun q hq => h.vw q (List.mem_filter.1 hq).1⟩
theorem PairOK.outP {A : List Pair} (h : PairOK A) (B : List Pair) : PairOK (outP A B) := h.filter _
theorem PairOK.sortP {A : List Pair} (h : PairOK A) : PairOK (sortP A) := by
  have hd : DistK Prod.fst A := by
    unfold DistK
    exact List.Pairwise.of_map (S := fun a b => a ≠ b) Prod.fst (fun a b hab => hab) h.nd
  have ha := sortK_asc hd
  refine ⟨?_, fun q hq => h.kw q (mem_sortP.1 hq), fun q hq => h.vw q (mem_sortP.1 hq)⟩
  rw [List.nodup_iff_pairwise_ne, List.pairwise_map]
  refine List.Pairwise.imp ?_ ha
  intro a b hab e
  rw [e, cmp_self] at hab
  exact absurd hab (by decide)
theorem fits_lead {A B : List Pair} (h : PairOK A) (g : PairOK B) : Fits A ((sortP (outP A B)).map Prod.fst) (sortP (outP B A)) := by
  have h1 := (h.outP B).sortP
  have g1 := (g.outP A).sortP
  refine ⟨h1.nd, fun s hs => ?_, g1.nd, fun p hp hm => ?_, fun p hp => ⟨kw_cell (g1.kw p hp), vw_cell (g1.vw p hp)⟩, by have := g1.len; omega⟩
  · obtain ⟨p, hp, rfl⟩ := List.mem_map.1 hs
    exact List.mem_map_of_mem (mem_outP.1 (mem_sortP.1 hp)).1
  · obtain ⟨hpB, hpA⟩ := mem_outP.1 (mem_sortP.1 hp)
    obtain ⟨q, hq, e⟩ := List.mem_map.1 hm
    have hqB : q ∉ B := fun hqB => hpA (by rw [← g.uniq hqB hpB e]; exact hq)
    rw [← e]
    exact List.mem_map_of_mem (mem_sortP.2 (mem_outP.2 ⟨hq, hqB⟩))
def leadP (A B : List Pair) : List Pair := appP A ((sortP (outP A B)).map Prod.fst) (sortP (outP B A))
theorem mem_leadP {A B : List Pair} (h : PairOK A) (g : PairOK B) (p : Pair) : p ∈ leadP A B ↔ p ∈ B := by
  unfold leadP appP
  rw [List.mem_append, List.mem_filter, mem_sortP, mem_outP, decide_eq_true_eq]
  have hk : p ∈ A → (p.1 ∉ (sortP (outP A B)).map Prod.fst ↔ p ∈ B) := fun hp => by
    constructor
    · intro hn
      by_cases hb : p ∈ B
      · exact hb
      · exact absurd (List.mem_map_of_mem (mem_sortP.2 (mem_outP.2 ⟨hp, hb⟩))) hn
    · intro hb hm
      obtain ⟨q, hq, e⟩ := List.mem_map.1 hm
      obtain ⟨hqA, hqB⟩ := mem_outP.1 (mem_sortP.1 hq)
      exact hqB (by rw [h.uniq hqA hp e]; exact hb)
  constructor
  · rintro (⟨hp, hn⟩ | ⟨hb, _⟩)
    · exact (hk hp).1 hn
    · exact hb
  · intro hb
    by_cases hp : p ∈ A
    · exact .inl ⟨hp, (hk hp).2 hb⟩
    · exact .inr ⟨hb, hp⟩
theorem leadP_ok {A B : List Pair} (h : PairOK A) (g : PairOK B) : PairOK (leadP A B) := by
  refine ⟨?_, fun p hp => g.kw p ((mem_leadP h g p).1 hp), fun p hp => g.vw p ((mem_leadP h g p).1 hp)⟩
  unfold leadP appP
  rw [List.map_append, List.nodup_append]
  refine ⟨(h.filter _).nd, ((g.outP A).sortP).nd, fun a ha b hb e => ?_⟩
  subst e
  obtain ⟨p, hp, rfl⟩ := List.mem_map.1 ha
  obtain ⟨q, hq, e⟩ := List.mem_map.1 hb
  obtain ⟨hpA, hn⟩ := List.mem_filter.1 hp
  have hn : p.1 ∉ (sortP (outP A B)).map Prod.fst := of_decide_eq_true hn
  exact hn ((fits_lead h g).dis q hq (by rw [e]; exact List.mem_map_of_mem hpA) |> fun h => by rw [← e]; exact h)
theorem lead_apply {i : Int} {A B : List Pair} (h : PairOK A) (g : PairOK B) (hi : 0 ≤ i ∧ i ≤ 1073741824) : applyM (pairT i A) 1 (leadD A B) = (pairT i (leadP A B), 0) :=
  fits_apply h hi (fits_lead h g)
theorem out_same {A B : List Pair} (hAB : ∀ p, p ∈ A ↔ p ∈ B) : outP A B = [] ∧ outP B A = [] := by
  unfold outP
  exact ⟨List.filter_eq_nil_iff.2 fun p hp => by simp [(hAB p).1 hp], List.filter_eq_nil_iff.2 fun p hp => by simp [(hAB p).2 hp]⟩
theorem lead_none {A B : List Pair} (hAB : ∀ p, p ∈ A ↔ p ∈ B) : leadD A B = ⟨[], []⟩ := by
  obtain ⟨h1, h2⟩ := out_same hAB
  unfold leadD dlt
  rw [h1, h2]
  rfl
end Go.Sx.Sp
namespace Go.Sx.Sp
open Go Go.Sx Go.Proofs
attribute [local irreducible] GoodW
def cmpS (a b : Str) : Int := if Op.bytesLess a b = true then -1 else if Op.bytesLess a b = false ∧ a ≠ b then 1 else 0
theorem bytesLess_self : ∀ a : Str, Op.bytesLess a a = false
  | [] => rfl
  | x :: a => by simp [Op.bytesLess, bytesLess_self a]
theorem cmpS_zero (a b : Str) : cmpS a b = 0 ↔ a = b := by
  unfold cmpS
  constructor
  · intro h
    split at h
    · simp at h
    · split at h
      · simp at h
      · rename_i h1 h2
        rcases Classical.em (a = b) with e | e
        · exact e
        · exact absurd ⟨by simpa using h1, e⟩ h2
  · rintro rfl
    simp [bytesLess_self]
set_option maxHeartbeats 2000000 in
theorem cmpCells_spec (a b : Cell) (ha : a.null = false) (hb0 : b.null = false) : Spec Tryd.prog 97 [.agg a.row, .agg b.row] [] (.int .i64 (cmpS a.text b.text)) [] := by
  refine Spec.body env Tryd.func97 rfl (by kernel_rfl) (Nat.le_of_ble_eq_true (by kernel_rfl)) (keysSub rfl) fun Γ hN hK => ?_; have hML : maxLen = 9223372036854775807 := by unfold maxLen; rfl
  repeat (first | refine gA ?_ | refine gB ?_ | refine gC rfl ?_ | refine gD rfl ?_ | ((first | refine gE env hN (by kernel_rfl) ?_ | refine gF ?_ | refine gG ?_ | refine gH fun hlen => ?_ | refine gI (by kernel_rfl) ?_ | refine gN rfl ?_ | refine gN (by omega) ?_ | refine gJ rfl ?_ | refine gK (by omega) ?_ | refine gL (by omega) ?_ | refine gK rfl ?_ | refine gO ?_); conv => whnf))
  rw [ha]
  conv => whnf
  repeat (first | refine gA ?_ | refine gB ?_ | refine gC rfl ?_ | refine gD rfl ?_ | ((first | refine gE env hN (by kernel_rfl) ?_ | refine gF ?_ | refine gG ?_ | refine gH fun hlen => ?_ | refine gI (by kernel_rfl) ?_ | refine gN rfl ?_ | refine gN (by omega) ?_ | refine gJ rfl ?_ | refine gK (by omega) ?_ | refine gL (by omega) ?_ | refine gK rfl ?_ | refine gO ?_); conv => whnf))
  rw [hb0]
  conv => whnf
  repeat (first | refine gA ?_ | refine gB ?_ | refine gC rfl ?_ | refine gD rfl ?_ | ((first | refine gE env hN (by kernel_rfl) ?_ | refine gF ?_ | refine gG ?_ | refine gH fun hlen => ?_ | refine gI (by kernel_rfl) ?_ | refine gN rfl ?_ | refine gN (by omega) ?_ | refine gJ rfl ?_ | refine gK (by omega) ?_ | refine gL (by omega) ?_ | refine gK rfl ?_ | refine gO ?_); conv => whnf))
  refine boolRes_split (fun hb => ?_) (fun hb => ?_) <;> conv => whnf
  · have hT : cmpS a.text b.text = -1 := by unfold cmpS; rw [if_pos hb]
    repeat (first | refine gA ?_ | refine gB ?_ | refine gC rfl ?_ | refine gD rfl ?_ | ((first | refine gE env hN (by kernel_rfl) ?_ | refine gF ?_ | refine gG ?_ | refine gH fun hlen => ?_ | refine gI (by kernel_rfl) ?_ | refine gN rfl ?_ | refine gN (by omega) ?_ | refine gJ rfl ?_ | refine gK (by omega) ?_ | refine gL (by omega) ?_ | refine gK rfl ?_ | refine gO ?_ | refine gM ?_); conv => whnf))
    exact ret0 rfl (by rw [hT]; rfl) rfl
  · repeat (first | refine gA ?_ | refine gB ?_ | refine gC rfl ?_ | refine gD rfl ?_ | ((first | refine gE env hN (by kernel_rfl) ?_ | refine gF ?_ | refine gG ?_ | refine gH fun hlen => ?_ | refine gI (by kernel_rfl) ?_ | refine gN rfl ?_ | refine gN (by omega) ?_ | refine gJ rfl ?_ | refine gK (by omega) ?_ | refine gL (by omega) ?_ | refine gK rfl ?_ | refine gO ?_); conv => whnf))
    refine boolRes_split (fun hb => ?_) (fun hb => ?_) <;> conv => whnf
    · have hT : cmpS a.text b.text = 1 := by unfold cmpS; rw [if_neg (by assumption), if_pos hb]
      repeat (first | refine gA ?_ | refine gB ?_ | refine gC rfl ?_ | refine gD rfl ?_ | ((first | refine gE env hN (by kernel_rfl) ?_ | refine gF ?_ | refine gG ?_ | refine gH fun hlen => ?_ | refine gI (by kernel_rfl) ?_ | refine gN rfl ?_ | refine gN (by omega) ?_ | refine gJ rfl ?_ | refine gK (by omega) ?_ | refine gL (by omega) ?_ | refine gK rfl ?_ | refine gO ?_ | refine gM ?_); conv => whnf))
      exact ret0 rfl (by rw [hT]; rfl) rfl
    · have hT : cmpS a.text b.text = 0 := by unfold cmpS; rw [if_neg (by assumption), if_neg hb]
      repeat (first | refine gA ?_ | refine gB ?_ | refine gC rfl ?_ | refine gD rfl ?_ | ((first | refine gE env hN (by kernel_rfl) ?_ | refine gF ?_ | refine gG ?_ | refine gH fun hlen => ?_ | refine gI (by kernel_rfl) ?_ | refine gN rfl ?_ | refine gN (by omega) ?_ | refine gJ rfl ?_ | refine gK (by omega) ?_ | refine gL (by omega) ?_ | refine gK rfl ?_ | refine gO ?_ | refine gM ?_); conv => whnf))
      exact ret0 rfl (by rw [hT]; rfl) rfl
def cmpL : List Cell → List Cell → Int
  | x :: a, y :: b => if cmpS x.text y.text = 0 then cmpL a b else cmpS x.text y.text
  | _, _ => 0
theorem cmpL_zero : ∀ {a b : List Cell}, a.length = b.length → (∀ x ∈ a, x.null = false) → (∀ x ∈ b, x.null = false) → (cmpL a b = 0 ↔ a = b)
  | [], [], _, _, _ => by simp [cmpL]
  | [], y :: b, h, _, _ => by simp at h
  | x :: a, [], h, _, _ => by simp at h
  | x :: a, y :: b, h, ha, hb => by
    have ih := cmpL_zero (a := a) (b := b) (by simpa using h) (fun z hz => ha z (List.mem_cons_of_mem _ hz)) (fun z hz => hb z (List.mem_cons_of_mem _ hz))
    have h1 := ha x List.mem_cons_self
    have h2 := hb y List.mem_cons_self
    have hxy : x = y ↔ x.text = y.text := by
      cases x; cases y; simp at h1 h2; simp [h1, h2]
    rw [List.cons.injEq, hxy, ← cmpS_zero, ← ih]
    rw [show cmpL (x :: a) (y :: b) = if cmpS x.text y.text = 0 then cmpL a b else cmpS x.text y.text from rfl]
    by_cases e : cmpS x.text y.text = 0
    · simp [e]
    · simp [e]
set_option maxHeartbeats 4000000 in
theorem cmpRows_spec (a b : List Cell) (h : a.length = b.length) (ha : ∀ x ∈ a, x.null = false) (hb0 : ∀ x ∈ b, x.null = false) : Spec Tryd.prog 56 [.sl (cellRows a) false, .sl (cellRows b) false] [] (.int .i64 (cmpL a b)) [] := by
  have hla := cellRows_len a
  have hlb := cellRows_len b
  refine Spec.body env Tryd.func56 rfl (by kernel_rfl) (Nat.le_of_ble_eq_true (by kernel_rfl)) (keysSub rfl) fun Γ hN hK => ?_; have hML : maxLen = 9223372036854775807 := by unfold maxLen; rfl
  repeat (first | refine gA ?_ | refine gB ?_ | refine gC rfl ?_ | refine gD rfl ?_ | ((first | refine gE env hN (by kernel_rfl) ?_ | refine gF ?_ | refine gG ?_ | refine gH fun hlen => ?_ | refine gI (by kernel_rfl) ?_ | refine gN rfl ?_ | refine gN (by omega) ?_ | refine gJ rfl ?_ | refine gK (by omega) ?_ | refine gL (by omega) ?_ | refine gK rfl ?_ | refine gO ?_); conv => whnf))
  refine W.loopG (fun m st => ∃ j : Nat, j ≤ a.length ∧ cmpL a b = cmpL (a.drop j) (b.drop j) ∧ m = a.length - j ∧ st = ⟨[(0, .sl (cellRows a) false), (1, .sl (cellRows b) false), (8, .int .i64 (cellRows a).length), (9, .int .i64 j)], [], []⟩)
    a.length _ ⟨0, by omega, rfl, by omega, rfl⟩ ⟨[], [], [], LeG.mk' rfl rfl rfl (by repeat' (first | exact trivial | exact ⟨_, .refl _, rfl⟩ | apply And.intro)) .nil rfl rfl (by rw [hK]; rfl)⟩ ?_
  rintro m st ⟨j, hj, hc, rfl, rfl⟩
  repeat (first | refine gA ?_ | refine gB ?_ | refine gC rfl ?_ | refine gD rfl ?_ | ((first | refine gE env hN (by kernel_rfl) ?_ | refine gF ?_ | refine gG ?_ | refine gH fun hlen => ?_ | refine gI (by kernel_rfl) ?_ | refine gN rfl ?_ | refine gN (by omega) ?_ | refine gJ rfl ?_ | refine gK (by omega) ?_ | refine gL (by omega) ?_ | refine gK rfl ?_ | refine gO ?_); conv => whnf))
  refine boolRes_split (fun hb => ?_) (fun hb => ?_) <;> conv => whnf
  · have hlt : j < a.length := by omega
    have hltb : j < b.length := by omega
    have hga := cellRows_get hlt
    have hgb := cellRows_get hltb
    have sp := cmpCells_spec a[j] b[j] (ha _ (List.getElem_mem hlt)) (hb0 _ (List.getElem_mem hltb))
    rw [List.drop_eq_getElem_cons hlt, List.drop_eq_getElem_cons hltb] at hc
    rw [cmpL] at hc
    generalize a[j] = x at *
    generalize b[j] = y at *
    repeat (first | refine gA ?_ | refine gB ?_ | refine gC rfl ?_ | refine gD rfl ?_ | ((first | refine gE env hN (by kernel_rfl) ?_ | refine gF ?_ | refine gG ?_ | refine gH fun hlen => ?_ | refine gI (by kernel_rfl) ?_ | refine gN rfl ?_ | refine gN (by omega) ?_ | refine gJ rfl ?_ | refine gK (by omega) ?_ | refine gL (by omega) ?_ | refine gK rfl ?_ | refine gO ?_); conv => whnf))
    refine rowAt_of (by simpa using hga) ?_
    conv => whnf
    repeat (first | refine gA ?_ | refine gB ?_ | refine gC rfl ?_ | refine gD rfl ?_ | ((first | refine gE env hN (by kernel_rfl) ?_ | refine gF ?_ | refine gG ?_ | refine gH fun hlen => ?_ | refine gI (by kernel_rfl) ?_ | refine gN rfl ?_ | refine gN (by omega) ?_ | refine gJ rfl ?_ | refine gK (by omega) ?_ | refine gL (by omega) ?_ | refine gK rfl ?_ | refine gO ?_); conv => whnf))
    refine rowAt_of (by simpa using hgb) ?_
    conv => whnf
    repeat (first | refine gA ?_ | refine gB ?_ | refine gC rfl ?_ | refine gD rfl ?_ | ((first | refine gE env hN (by kernel_rfl) ?_ | refine gF ?_ | refine gG ?_ | refine gH fun hlen => ?_ | refine gI (by kernel_rfl) ?_ | refine gN rfl ?_ | refine gN (by omega) ?_ | refine gJ rfl ?_ | refine gK (by omega) ?_ | refine gL (by omega) ?_ | refine gK rfl ?_ | refine gO ?_); conv => whnf))
    (refine ⟨_, _, _, callG [] [] [] rfl rfl rfl (by kernel_rfl) (sp) (by repeat' (first | exact trivial | exact Lent.refl _ | exact Lent.norm _ | apply And.intro)) rfl ⟨rfl, rfl, rfl, rfl, rfl, trivial, rfl, rfl⟩, ?_⟩; conv => whnf)
    repeat (first | refine gA ?_ | refine gB ?_ | refine gC rfl ?_ | refine gD rfl ?_ | ((first | refine gE env hN (by kernel_rfl) ?_ | refine gF ?_ | refine gG ?_ | refine gH fun hlen => ?_ | refine gI (by kernel_rfl) ?_ | refine gN rfl ?_ | refine gN (by omega) ?_ | refine gJ rfl ?_ | refine gK (by omega) ?_ | refine gL (by omega) ?_ | refine gK rfl ?_ | refine gO ?_); conv => whnf))
    by_cases e : cmpS x.text y.text = 0
    · rw [if_pos e] at hc
      rw [e]
      repeat (first | refine gA ?_ | refine gB ?_ | refine gC rfl ?_ | refine gD rfl ?_ | ((first | refine gE env hN (by kernel_rfl) ?_ | refine gF ?_ | refine gG ?_ | refine gH fun hlen => ?_ | refine gI (by kernel_rfl) ?_ | refine gN rfl ?_ | refine gN (by omega) ?_ | refine gJ rfl ?_ | refine gK (by omega) ?_ | refine gL (by omega) ?_ | refine gK rfl ?_ | refine gO ?_); conv => whnf))
      refine ⟨_, _, ?_, ⟨j + 1, by omega, hc, rfl, rfl⟩, ⟨[], [], [], LeG.mk' rfl rfl rfl (by repeat' (first | exact trivial | exact ⟨_, .refl _, rfl⟩ | apply And.intro)) .nil rfl rfl (by rw [hK]; rfl)⟩⟩
      omega
    · rw [if_neg e] at hc
      refine boolRes_true e ?_
      conv => whnf
      repeat (first | refine gA ?_ | refine gB ?_ | refine gC rfl ?_ | refine gD rfl ?_ | ((first | refine gE env hN (by kernel_rfl) ?_ | refine gF ?_ | refine gG ?_ | refine gH fun hlen => ?_ | refine gI (by kernel_rfl) ?_ | refine gN rfl ?_ | refine gN (by omega) ?_ | refine gJ rfl ?_ | refine gK (by omega) ?_ | refine gL (by omega) ?_ | refine gK rfl ?_ | refine gO ?_ | refine gM ?_); conv => whnf))
      exact ret0 rfl (by rw [hc]; rfl) rfl
  · have hje : j = a.length := by omega
    rw [hje, List.drop_length] at hc
    repeat (first | refine gA ?_ | refine gB ?_ | refine gC rfl ?_ | refine gD rfl ?_ | ((first | refine gE env hN (by kernel_rfl) ?_ | refine gF ?_ | refine gG ?_ | refine gH fun hlen => ?_ | refine gI (by kernel_rfl) ?_ | refine gN rfl ?_ | refine gN (by omega) ?_ | refine gJ rfl ?_ | refine gK (by omega) ?_ | refine gL (by omega) ?_ | refine gK rfl ?_ | refine gO ?_ | refine gM ?_); conv => whnf))
    exact ret0 rfl (by rw [hc]; rfl) rfl
end Go.Sx.Sp
namespace Go.Sx.Sp
open Go Go.Sx Go.Proofs
attribute [local irreducible] GoodW
set_option maxHeartbeats 2000000 in
theorem at3_spec (t : Table) (i : Nat) (hi : ∀ c ∈ t.cols, i < c.cells.length) (hn : t.cols.length ≤ 4294967295) : Spec Tryd.prog 57 [.agg t.row, .int .i64 i] [] (.sl (cellRows (rowM t i)) false) [] := by
  have hcl := colRows_len t.cols
  refine Spec.body env Tryd.func57 rfl (by kernel_rfl) (Nat.le_of_ble_eq_true (by kernel_rfl)) (keysSub rfl) fun Γ hN hK => ?_; have hML : maxLen = 9223372036854775807 := by unfold maxLen; rfl
  repeat (first | refine gA ?_ | refine gB ?_ | refine gC rfl ?_ | refine gD rfl ?_ | ((first | refine gE env hN (by kernel_rfl) ?_ | refine gF ?_ | refine gG ?_ | refine gH fun hlen => ?_ | refine gI (by kernel_rfl) ?_ | refine gN rfl ?_ | refine gN (by omega) ?_ | refine gJ rfl ?_ | refine gK (by omega) ?_ | refine gL (by omega) ?_ | refine gK rfl ?_ | refine gO ?_); conv => whnf))
  refine W.ownNil 5 51 2 rfl rfl ?_
  refine W.loopG (fun n st => ∃ j : Nat, j ≤ t.cols.length ∧ n = t.cols.length - j ∧ st = ⟨[(1, .int .i64 i), (5, .osl 51 0 0 j j), (9, .sl (colRows t.cols) false), (10, .int .i64 (colRows t.cols).length), (11, .int .i64 j)], [(51, [.rows 2 (cellRows ((rowM t i).take j)) (some [])])], [51]⟩)
    t.cols.length _ ⟨0, by omega, by omega, rfl⟩ ⟨[(51, 51)], [], [], LeG.mk' rfl rfl rfl (by repeat' (first | exact trivial | exact ⟨_, .refl _, rfl⟩ | apply And.intro)) (.cons 51 rfl rfl (.refl _) rfl .nil) rfl rfl (by rw [hK]; rfl)⟩ ?_
  rintro n st ⟨j, hj, rfl, rfl⟩
  repeat (first | refine gA ?_ | refine gB ?_ | refine gC rfl ?_ | refine gD rfl ?_ | ((first | refine gE env hN (by kernel_rfl) ?_ | refine gF ?_ | refine gG ?_ | refine gH fun hlen => ?_ | refine gI (by kernel_rfl) ?_ | refine gN rfl ?_ | refine gN (by omega) ?_ | refine gJ rfl ?_ | refine gK (by omega) ?_ | refine gL (by omega) ?_ | refine gK rfl ?_ | refine gO ?_); conv => whnf))
  refine boolRes_split (fun hb => ?_) (fun hb => ?_) <;> conv => whnf
  · have hlt : j < t.cols.length := by omega
    have hg := colRows_get hlt
    have hc := hi _ (List.getElem_mem hlt)
    have hsn : (rowM t i).take (j + 1) = (rowM t i).take j ++ [cellAt t.cols[j] i] := by
      rw [List.take_succ_eq_append_getElem (by rw [rowM_len]; exact hlt)]
      simp [rowM]
    have hjl : (cellRows ((rowM t i).take j)).length = j := by rw [cellRows_len, List.length_take, rowM_len]; omega
    have hca : cellAt t.cols[j] i = t.cols[j].cells[i] := by simp [cellAt, hc]
    rw [hca] at hsn
    generalize t.cols[j] = c at *
    have hgc := cellRows_get hc
    have hl := cellRows_len c.cells
    generalize c.cells[i] = x at *
    repeat (first | refine gA ?_ | refine gB ?_ | refine gC rfl ?_ | refine gD rfl ?_ | ((first | refine gE env hN (by kernel_rfl) ?_ | refine gF ?_ | refine gG ?_ | refine gH fun hlen => ?_ | refine gI (by kernel_rfl) ?_ | refine gN rfl ?_ | refine gN (by omega) ?_ | refine gJ rfl ?_ | refine gK (by omega) ?_ | refine gL (by omega) ?_ | refine gK rfl ?_ | refine gO ?_); conv => whnf))
    refine rowAt_of (by simpa using hg) ?_
    conv => whnf
    repeat (first | refine gA ?_ | refine gB ?_ | refine gC rfl ?_ | refine gD rfl ?_ | ((first | refine gE env hN (by kernel_rfl) ?_ | refine gF ?_ | refine gG ?_ | refine gH fun hlen => ?_ | refine gI (by kernel_rfl) ?_ | refine gN rfl ?_ | refine gN (by omega) ?_ | refine gJ rfl ?_ | refine gK (by omega) ?_ | refine gL (by omega) ?_ | refine gK rfl ?_ | refine gO ?_); conv => whnf))
    refine rowAt_of (by simpa using hgc) ?_
    conv => whnf
    repeat (first | refine gA ?_ | refine gB ?_ | refine gC rfl ?_ | refine gD rfl ?_ | ((first | refine gE env hN (by kernel_rfl) ?_ | refine gF ?_ | refine gG ?_ | refine gH fun hlen => ?_ | refine gI (by kernel_rfl) ?_ | refine gN rfl ?_ | refine gN (by omega) ?_ | refine gJ rfl ?_ | refine gK (by omega) ?_ | refine gL (by omega) ?_ | refine gK rfl ?_ | refine gO ?_); conv => whnf))
    refine ⟨⟨rowsSz_cons rfl rowsSz_nil, hjl.symm⟩, fitN (n := j + 1) (b := 24) (by omega) (by omega), .inl ⟨rfl, rfl, ?_⟩⟩
    conv => whnf
    repeat (first | refine gA ?_ | refine gB ?_ | refine gC rfl ?_ | refine gD rfl ?_ | ((first | refine gE env hN (by kernel_rfl) ?_ | refine gF ?_ | refine gG ?_ | refine gH fun hlen => ?_ | refine gI (by kernel_rfl) ?_ | refine gN rfl ?_ | refine gN (by omega) ?_ | refine gJ rfl ?_ | refine gK (by omega) ?_ | refine gL (by omega) ?_ | refine gK rfl ?_ | refine gO ?_); conv => whnf))
    refine ⟨_, _, ?_, ⟨j + 1, by omega, rfl, rfl⟩, [(51, 51)], [], [], LeG.mk' rfl rfl rfl (by repeat' (first | exact trivial | exact ⟨_, .refl _, rfl⟩ | apply And.intro)) (.cons 51 rfl rfl (.refl _) ?_ .nil) rfl rfl (by rw [hK]; rfl)⟩
    · omega
    · rw [hsn]; simp only [cellRows, List.map_append]; rfl
  · have hje : j = t.cols.length := by omega
    have htk : (rowM t i).take j = rowM t i := List.take_of_length_le (by rw [rowM_len]; omega)
    have hjl : j = (cellRows (rowM t i)).length := by rw [cellRows_len, rowM_len]; omega
    rw [htk]
    refine W.leG (mp := []) (bo := [51]) (st' := ⟨[(5, .sl (cellRows (rowM t i)) false), (12, .bool false)], [], []⟩) (LeG.mk' rfl rfl rfl ⟨⟨_, Lent.whole rfl rfl hjl rfl (.inl rfl), rfl⟩, ⟨_, .refl _, rfl⟩, trivial⟩ .nil rfl rfl (by rw [hK]; rfl)) ?_
    repeat (first | refine gA ?_ | refine gB ?_ | refine gC rfl ?_ | refine gD rfl ?_ | ((first | refine gE env hN (by kernel_rfl) ?_ | refine gF ?_ | refine gG ?_ | refine gH fun hlen => ?_ | refine gI (by kernel_rfl) ?_ | refine gN rfl ?_ | refine gN (by omega) ?_ | refine gJ rfl ?_ | refine gK (by omega) ?_ | refine gL (by omega) ?_ | refine gK rfl ?_ | refine gO ?_ | refine gM ?_); conv => whnf))
    exact ret0 rfl rfl rfl
end Go.Sx.Sp
namespace Go.Sx.Sp
open Go Go.Sx Go.Proofs
attribute [local irreducible] GoodW
theorem pair_at (id : Int) {ps : List Pair} {i : Nat} (hi : i < ps.length) : Spec Tryd.prog 57 [.agg (pairT id ps).row, .int .i64 i] [] (.sl (cellRows (rowOf ps[i])) false) [] := by
  have sp := at3_spec (pairT id ps) i (fun c hc => by
    simp only [pairT, List.mem_cons, List.not_mem_nil, or_false] at hc
    rcases hc with rfl | rfl <;> simpa using hi) (by simp [pairT])
  rw [pair_row id hi] at sp
  exact sp
theorem pair_cmp (p q : Pair) : Spec Tryd.prog 56 [.sl (cellRows (rowOf p)) false, .sl (cellRows (rowOf q)) false] [] (.int .i64 (cmpL (rowOf p) (rowOf q))) [] :=
  cmpRows_spec _ _ rfl (fun x hx => by simp [rowOf, valC, keyC, cellOf] at hx; rcases hx with rfl | rfl <;> rfl) (fun x hx => by simp [rowOf, valC, keyC, cellOf] at hx; rcases hx with rfl | rfl <;> rfl)
theorem pair_cmp_zero (p q : Pair) : cmpL (rowOf p) (rowOf q) = 0 ↔ p = q := by
  rw [cmpL_zero (a := rowOf p) (b := rowOf q) rfl (fun x hx => by simp [rowOf, valC, keyC, cellOf] at hx; rcases hx with rfl | rfl <;> rfl) (fun x hx => by simp [rowOf, valC, keyC, cellOf] at hx; rcases hx with rfl | rfl <;> rfl)]
  exact ⟨rowOf_inj, fun e => by rw [e]⟩
end Go.Sx.Sp
namespace Go.Sx.Sp
open Go Go.Sx Go.Proofs
attribute [local irreducible] GoodW
theorem count_one {l : List Pair} {p : Pair} (h : l.Nodup) (hp : p ∈ l) : l.count p = 1 := by
  have := h.count (a := p)
  simpa [hp] using this
theorem count_snoc {l : List Pair} {k : Nat} (h : k < l.length) (p : Pair) : (l.take (k + 1)).count p = (l.take k).count p + if p = l[k] then 1 else 0 := by
  rw [List.take_succ_eq_append_getElem h, List.count_append, List.count_singleton]
  by_cases e : p = l[k]
  · simp [e]
  · have : ¬ l[k] = p := fun h => e h.symm
    simp [e, this]
set_option maxHeartbeats 16000000 in
theorem sameRows_spec {i j : Int} {A B : List Pair} (h : PairOK A) (g : PairOK B) (hi : 0 ≤ i ∧ i ≤ 1073741824) (hj : 0 ≤ j ∧ j ≤ 1073741824) (hAB : ∀ p, p ∈ A ↔ p ∈ B) : Spec Tryd.prog 17 [.agg (pairT i A).row, .agg (pairT j B).row] [] (.bool true) [] := by
  have hlenAB : A.length = B.length := by
    have a1 := h.nodup.length_le_of_subset (fun p hp => (hAB p).1 hp)
    have a2 := g.nodup.length_le_of_subset (fun p hp => (hAB p).2 hp)
    omega
  have sv1 := valid3_spec (pairT i A)
  have sv2 := valid3_spec (pairT j B)
  rw [pair_valid h hi] at sv1
  rw [pair_valid g hj] at sv2
  have sr1 := rows3_spec (pairT i A)
  have sr2 := rows3_spec (pairT j B)
  rw [pair_rows] at sr1 sr2
  have hc1 : (colRows (pairT i A).cols).length = 2 := rfl
  have hc2 : (colRows (pairT j B).cols).length = 2 := rfl
  have hA7 := h.len
  refine Spec.body env Tryd.func17 rfl (by kernel_rfl) (Nat.le_of_ble_eq_true (by kernel_rfl)) (keysSub rfl) fun Γ hN hK => ?_; have hML : maxLen = 9223372036854775807 := by unfold maxLen; rfl
  repeat (first | refine gA ?_ | refine gB ?_ | refine gC rfl ?_ | refine gD rfl ?_ | ((first | refine gE env hN (by kernel_rfl) ?_ | refine gF ?_ | refine gG ?_ | refine gH fun hlen => ?_ | refine gI (by kernel_rfl) ?_ | refine gN rfl ?_ | refine gN (by omega) ?_ | refine gJ rfl ?_ | refine gK (by omega) ?_ | refine gL (by omega) ?_ | refine gK rfl ?_ | refine gO ?_); conv => whnf))
  (refine ⟨_, _, _, callG [] [] [] rfl rfl rfl (by kernel_rfl) (sv1) (by repeat' (first | exact trivial | exact Lent.refl _ | exact Lent.norm _ | apply And.intro)) rfl ⟨rfl, rfl, rfl, rfl, rfl, trivial, rfl, rfl⟩, ?_⟩; conv => whnf)
  repeat (first | refine gA ?_ | refine gB ?_ | refine gC rfl ?_ | refine gD rfl ?_ | ((first | refine gE env hN (by kernel_rfl) ?_ | refine gF ?_ | refine gG ?_ | refine gH fun hlen => ?_ | refine gI (by kernel_rfl) ?_ | refine gN rfl ?_ | refine gN (by omega) ?_ | refine gJ rfl ?_ | refine gK (by omega) ?_ | refine gL (by omega) ?_ | refine gK rfl ?_ | refine gO ?_); conv => whnf))
  (refine ⟨_, _, _, callG [] [] [] rfl rfl rfl (by kernel_rfl) (sv2) (by repeat' (first | exact trivial | exact Lent.refl _ | exact Lent.norm _ | apply And.intro)) rfl ⟨rfl, rfl, rfl, rfl, rfl, trivial, rfl, rfl⟩, ?_⟩; conv => whnf)
  repeat (first | refine gA ?_ | refine gB ?_ | refine gC rfl ?_ | refine gD rfl ?_ | ((first | refine gE env hN (by kernel_rfl) ?_ | refine gF ?_ | refine gG ?_ | refine gH fun hlen => ?_ | refine gI (by kernel_rfl) ?_ | refine gN rfl ?_ | refine gN (by omega) ?_ | refine gJ rfl ?_ | refine gK (by omega) ?_ | refine gL (by omega) ?_ | refine gK rfl ?_ | refine gO ?_); conv => whnf))
  (refine ⟨_, _, _, callG [] [] [] rfl rfl rfl (by kernel_rfl) (sr1) (by repeat' (first | exact trivial | exact Lent.refl _ | exact Lent.norm _ | apply And.intro)) rfl ⟨rfl, rfl, rfl, rfl, rfl, trivial, rfl, rfl⟩, ?_⟩; conv => whnf)
  repeat (first | refine gA ?_ | refine gB ?_ | refine gC rfl ?_ | refine gD rfl ?_ | ((first | refine gE env hN (by kernel_rfl) ?_ | refine gF ?_ | refine gG ?_ | refine gH fun hlen => ?_ | refine gI (by kernel_rfl) ?_ | refine gN rfl ?_ | refine gN (by omega) ?_ | refine gJ rfl ?_ | refine gK (by omega) ?_ | refine gL (by omega) ?_ | refine gK rfl ?_ | refine gO ?_); conv => whnf))
  (refine ⟨_, _, _, callG [] [] [] rfl rfl rfl (by kernel_rfl) (sr2) (by repeat' (first | exact trivial | exact Lent.refl _ | exact Lent.norm _ | apply And.intro)) rfl ⟨rfl, rfl, rfl, rfl, rfl, trivial, rfl, rfl⟩, ?_⟩; conv => whnf)
  repeat (first | refine gA ?_ | refine gB ?_ | refine gC rfl ?_ | refine gD rfl ?_ | ((first | refine gE env hN (by kernel_rfl) ?_ | refine gF ?_ | refine gG ?_ | refine gH fun hlen => ?_ | refine gI (by kernel_rfl) ?_ | refine gN rfl ?_ | refine gN (by omega) ?_ | refine gJ rfl ?_ | refine gK (by omega) ?_ | refine gL (by omega) ?_ | refine gK rfl ?_ | refine gO ?_); conv => whnf))
  refine W.loopG (fun m st => ∃ r : Nat, r ≤ A.length ∧ m = A.length - r ∧ st = ⟨[(2, .bp 2 0), (3, .bp 3 0), (5, .int .i64 r)], [(2, [.rows 3 [(pairT i A).row] none]), (3, [.rows 3 [(pairT j B).row] none])], [2, 3]⟩)
    A.length _ ⟨0, by omega, by omega, rfl⟩ ⟨[(2, 2), (3, 3)], [], [], LeG.mk' rfl rfl rfl (by repeat' (first | exact trivial | exact ⟨_, .refl _, rfl⟩ | apply And.intro)) (.cons 2 rfl rfl (.refl _) rfl (.cons 3 rfl rfl (.refl _) rfl .nil)) rfl rfl (by rw [hK]; rfl)⟩ ?_
  rintro m st ⟨r, hr, rfl, rfl⟩
  repeat (first | refine gA ?_ | refine gB ?_ | refine gC rfl ?_ | refine gD rfl ?_ | ((first | refine gE env hN (by kernel_rfl) ?_ | refine gF ?_ | refine gG ?_ | refine gH fun hlen => ?_ | refine gI (by kernel_rfl) ?_ | refine gN rfl ?_ | refine gN (by omega) ?_ | refine gJ rfl ?_ | refine gK (by omega) ?_ | refine gL (by omega) ?_ | refine gK rfl ?_ | refine gO ?_); conv => whnf))
  (refine ⟨_, _, _, callG [] [] [] rfl rfl rfl (by kernel_rfl) (sr1) (by repeat' (first | exact trivial | exact Lent.refl _ | exact Lent.norm _ | apply And.intro)) rfl ⟨rfl, rfl, rfl, rfl, rfl, trivial, rfl, rfl⟩, ?_⟩; conv => whnf)
  repeat (first | refine gA ?_ | refine gB ?_ | refine gC rfl ?_ | refine gD rfl ?_ | ((first | refine gE env hN (by kernel_rfl) ?_ | refine gF ?_ | refine gG ?_ | refine gH fun hlen => ?_ | refine gI (by kernel_rfl) ?_ | refine gN rfl ?_ | refine gN (by omega) ?_ | refine gJ rfl ?_ | refine gK (by omega) ?_ | refine gL (by omega) ?_ | refine gK rfl ?_ | refine gO ?_); conv => whnf))
  refine boolRes_split (fun hb => ?_) (fun hb => ?_) <;> conv => whnf
  · have hlt : r < A.length := by omega
    have sA := pair_at i hlt
    have hcA : A.count A[r] = 1 := count_one h.nodup (List.getElem_mem hlt)
    have hcB : B.count A[r] = 1 := count_one g.nodup ((hAB _).1 (List.getElem_mem hlt))
    generalize A[r] = p at *
    repeat (first | refine gA ?_ | refine gB ?_ | refine gC rfl ?_ | refine gD rfl ?_ | ((first | refine gE env hN (by kernel_rfl) ?_ | refine gF ?_ | refine gG ?_ | refine gH fun hlen => ?_ | refine gI (by kernel_rfl) ?_ | refine gN rfl ?_ | refine gN (by omega) ?_ | refine gJ rfl ?_ | refine gK (by omega) ?_ | refine gL (by omega) ?_ | refine gK rfl ?_ | refine gO ?_); conv => whnf))
    refine W.loopG (fun m st => ∃ k : Nat, k ≤ A.length ∧ m = A.length - k ∧ st = ⟨[(2, .bp 2 0), (3, .bp 3 0), (5, .int .i64 r), (6, .int .i64 ((A.take k).count p)), (7, .int .i64 ((B.take k).count p)), (8, .int .i64 k)], [(2, [.rows 3 [(pairT i A).row] none]), (3, [.rows 3 [(pairT j B).row] none])], [2, 3]⟩)
      A.length _ ⟨0, by omega, by omega, rfl⟩ ⟨[(2, 2), (3, 3)], [], [], LeG.mk' rfl rfl rfl (by repeat' (first | exact trivial | exact ⟨_, .refl _, rfl⟩ | apply And.intro)) (.cons 2 rfl rfl (.refl _) rfl (.cons 3 rfl rfl (.refl _) rfl .nil)) rfl rfl (by rw [hK]; rfl)⟩ ?_
    rintro m st ⟨k, hk, rfl, rfl⟩
    repeat (first | refine gA ?_ | refine gB ?_ | refine gC rfl ?_ | refine gD rfl ?_ | ((first | refine gE env hN (by kernel_rfl) ?_ | refine gF ?_ | refine gG ?_ | refine gH fun hlen => ?_ | refine gI (by kernel_rfl) ?_ | refine gN rfl ?_ | refine gN (by omega) ?_ | refine gJ rfl ?_ | refine gK (by omega) ?_ | refine gL (by omega) ?_ | refine gK rfl ?_ | refine gO ?_); conv => whnf))
    (refine ⟨_, _, _, callG [] [] [] rfl rfl rfl (by kernel_rfl) (sr1) (by repeat' (first | exact trivial | exact Lent.refl _ | exact Lent.norm _ | apply And.intro)) rfl ⟨rfl, rfl, rfl, rfl, rfl, trivial, rfl, rfl⟩, ?_⟩; conv => whnf)
    repeat (first | refine gA ?_ | refine gB ?_ | refine gC rfl ?_ | refine gD rfl ?_ | ((first | refine gE env hN (by kernel_rfl) ?_ | refine gF ?_ | refine gG ?_ | refine gH fun hlen => ?_ | refine gI (by kernel_rfl) ?_ | refine gN rfl ?_ | refine gN (by omega) ?_ | refine gJ rfl ?_ | refine gK (by omega) ?_ | refine gL (by omega) ?_ | refine gK rfl ?_ | refine gO ?_); conv => whnf))
    refine boolRes_split (fun hb => ?_) (fun hb => ?_) <;> conv => whnf
    · have hka : k < A.length := by omega
      have hkb : k < B.length := by omega
      have sA2 := pair_at i hka
      have sB2 := pair_at j hkb
      have c1 := pair_cmp p A[k]
      have c2 := pair_cmp p B[k]
      have z1 := pair_cmp_zero p A[k]
      have z2 := pair_cmp_zero p B[k]
      have n1 := count_snoc hka p
      have n2 := count_snoc hkb p
      have m1 : (A.take k).count p ≤ k := Nat.le_trans List.count_le_length (by simp; omega)
      have m2 : (B.take k).count p ≤ k := Nat.le_trans List.count_le_length (by simp; omega)
      generalize A[k] = x at *
      generalize B[k] = y at *
      repeat (first | refine gA ?_ | refine gB ?_ | refine gC rfl ?_ | refine gD rfl ?_ | ((first | refine gE env hN (by kernel_rfl) ?_ | refine gF ?_ | refine gG ?_ | refine gH fun hlen => ?_ | refine gI (by kernel_rfl) ?_ | refine gN rfl ?_ | refine gN (by omega) ?_ | refine gJ rfl ?_ | refine gK (by omega) ?_ | refine gL (by omega) ?_ | refine gK rfl ?_ | refine gO ?_); conv => whnf))
      (refine ⟨_, _, _, callG [] [] [] rfl rfl rfl (by kernel_rfl) (sA) (by repeat' (first | exact trivial | exact Lent.refl _ | exact Lent.norm _ | apply And.intro)) rfl ⟨rfl, rfl, rfl, rfl, rfl, trivial, rfl, rfl⟩, ?_⟩; conv => whnf)
      repeat (first | refine gA ?_ | refine gB ?_ | refine gC rfl ?_ | refine gD rfl ?_ | ((first | refine gE env hN (by kernel_rfl) ?_ | refine gF ?_ | refine gG ?_ | refine gH fun hlen => ?_ | refine gI (by kernel_rfl) ?_ | refine gN rfl ?_ | refine gN (by omega) ?_ | refine gJ rfl ?_ | refine gK (by omega) ?_ | refine gL (by omega) ?_ | refine gK rfl ?_ | refine gO ?_); conv => whnf))
      (refine ⟨_, _, _, callG [] [] [] rfl rfl rfl (by kernel_rfl) (sA2) (by repeat' (first | exact trivial | exact Lent.refl _ | exact Lent.norm _ | apply And.intro)) rfl ⟨rfl, rfl, rfl, rfl, rfl, trivial, rfl, rfl⟩, ?_⟩; conv => whnf)
      repeat (first | refine gA ?_ | refine gB ?_ | refine gC rfl ?_ | refine gD rfl ?_ | ((first | refine gE env hN (by kernel_rfl) ?_ | refine gF ?_ | refine gG ?_ | refine gH fun hlen => ?_ | refine gI (by kernel_rfl) ?_ | refine gN rfl ?_ | refine gN (by omega) ?_ | refine gJ rfl ?_ | refine gK (by omega) ?_ | refine gL (by omega) ?_ | refine gK rfl ?_ | refine gO ?_); conv => whnf))
      (refine ⟨_, _, _, callG [] [] [] rfl rfl rfl (by kernel_rfl) (c1) (by repeat' (first | exact trivial | exact Lent.refl _ | exact Lent.norm _ | apply And.intro)) rfl ⟨rfl, rfl, rfl, rfl, rfl, trivial, rfl, rfl⟩, ?_⟩; conv => whnf)
      repeat (first | refine gA ?_ | refine gB ?_ | refine gC rfl ?_ | refine gD rfl ?_ | ((first | refine gE env hN (by kernel_rfl) ?_ | refine gF ?_ | refine gG ?_ | refine gH fun hlen => ?_ | refine gI (by kernel_rfl) ?_ | refine gN rfl ?_ | refine gN (by omega) ?_ | refine gJ rfl ?_ | refine gK (by omega) ?_ | refine gL (by omega) ?_ | refine gK rfl ?_ | refine gO ?_); conv => whnf))
      refine boolRes_split (fun hb => ?_) (fun hb => ?_) <;> conv => whnf
      · have k1 := z1.1 hb
        repeat (first | refine gA ?_ | refine gB ?_ | refine gC rfl ?_ | refine gD rfl ?_ | ((first | refine gE env hN (by kernel_rfl) ?_ | refine gF ?_ | refine gG ?_ | refine gH fun hlen => ?_ | refine gI (by kernel_rfl) ?_ | refine gN rfl ?_ | refine gN (by omega) ?_ | refine gJ rfl ?_ | refine gK (by omega) ?_ | refine gL (by omega) ?_ | refine gK rfl ?_ | refine gO ?_); conv => whnf))
        (refine ⟨_, _, _, callG [] [] [] rfl rfl rfl (by kernel_rfl) (sA) (by repeat' (first | exact trivial | exact Lent.refl _ | exact Lent.norm _ | apply And.intro)) rfl ⟨rfl, rfl, rfl, rfl, rfl, trivial, rfl, rfl⟩, ?_⟩; conv => whnf)
        repeat (first | refine gA ?_ | refine gB ?_ | refine gC rfl ?_ | refine gD rfl ?_ | ((first | refine gE env hN (by kernel_rfl) ?_ | refine gF ?_ | refine gG ?_ | refine gH fun hlen => ?_ | refine gI (by kernel_rfl) ?_ | refine gN rfl ?_ | refine gN (by omega) ?_ | refine gJ rfl ?_ | refine gK (by omega) ?_ | refine gL (by omega) ?_ | refine gK rfl ?_ | refine gO ?_); conv => whnf))
        (refine ⟨_, _, _, callG [] [] [] rfl rfl rfl (by kernel_rfl) (sB2) (by repeat' (first | exact trivial | exact Lent.refl _ | exact Lent.norm _ | apply And.intro)) rfl ⟨rfl, rfl, rfl, rfl, rfl, trivial, rfl, rfl⟩, ?_⟩; conv => whnf)
        repeat (first | refine gA ?_ | refine gB ?_ | refine gC rfl ?_ | refine gD rfl ?_ | ((first | refine gE env hN (by kernel_rfl) ?_ | refine gF ?_ | refine gG ?_ | refine gH fun hlen => ?_ | refine gI (by kernel_rfl) ?_ | refine gN rfl ?_ | refine gN (by omega) ?_ | refine gJ rfl ?_ | refine gK (by omega) ?_ | refine gL (by omega) ?_ | refine gK rfl ?_ | refine gO ?_); conv => whnf))
        (refine ⟨_, _, _, callG [] [] [] rfl rfl rfl (by kernel_rfl) (c2) (by repeat' (first | exact trivial | exact Lent.refl _ | exact Lent.norm _ | apply And.intro)) rfl ⟨rfl, rfl, rfl, rfl, rfl, trivial, rfl, rfl⟩, ?_⟩; conv => whnf)
        repeat (first | refine gA ?_ | refine gB ?_ | refine gC rfl ?_ | refine gD rfl ?_ | ((first | refine gE env hN (by kernel_rfl) ?_ | refine gF ?_ | refine gG ?_ | refine gH fun hlen => ?_ | refine gI (by kernel_rfl) ?_ | refine gN rfl ?_ | refine gN (by omega) ?_ | refine gJ rfl ?_ | refine gK (by omega) ?_ | refine gL (by omega) ?_ | refine gK rfl ?_ | refine gO ?_); conv => whnf))
        refine boolRes_split (fun hb => ?_) (fun hb => ?_) <;> conv => whnf
        · repeat (first | refine gA ?_ | refine gB ?_ | refine gC rfl ?_ | refine gD rfl ?_ | ((first | refine gE env hN (by kernel_rfl) ?_ | refine gF ?_ | refine gG ?_ | refine gH fun hlen => ?_ | refine gI (by kernel_rfl) ?_ | refine gN rfl ?_ | refine gN (by omega) ?_ | refine gJ rfl ?_ | refine gK (by omega) ?_ | refine gL (by omega) ?_ | refine gK rfl ?_ | refine gO ?_); conv => whnf))
          refine ⟨_, _, ?_, ⟨k + 1, by omega, rfl, rfl⟩, [(2, 2), (3, 3)], [], [], LeG.mk' rfl rfl rfl ⟨⟨_, .refl _, rfl⟩, ⟨_, .refl _, rfl⟩, ⟨_, .refl _, rfl⟩, (by rw [n1, if_pos k1]; exact ⟨_, .refl _, rfl⟩), (by rw [n2, if_pos (z2.1 hb)]; exact ⟨_, .refl _, rfl⟩), ⟨_, .refl _, rfl⟩, trivial⟩ (.cons 2 rfl rfl (.refl _) rfl (.cons 3 rfl rfl (.refl _) rfl .nil)) rfl rfl (by rw [hK]; rfl)⟩
          omega
        · repeat (first | refine gA ?_ | refine gB ?_ | refine gC rfl ?_ | refine gD rfl ?_ | ((first | refine gE env hN (by kernel_rfl) ?_ | refine gF ?_ | refine gG ?_ | refine gH fun hlen => ?_ | refine gI (by kernel_rfl) ?_ | refine gN rfl ?_ | refine gN (by omega) ?_ | refine gJ rfl ?_ | refine gK (by omega) ?_ | refine gL (by omega) ?_ | refine gK rfl ?_ | refine gO ?_); conv => whnf))
          refine ⟨_, _, ?_, ⟨k + 1, by omega, rfl, rfl⟩, [(2, 2), (3, 3)], [], [], LeG.mk' rfl rfl rfl ⟨⟨_, .refl _, rfl⟩, ⟨_, .refl _, rfl⟩, ⟨_, .refl _, rfl⟩, (by rw [n1, if_pos k1]; exact ⟨_, .refl _, rfl⟩), (by rw [n2, if_neg (fun e => hb (z2.2 e))]; exact ⟨_, .refl _, rfl⟩), ⟨_, .refl _, rfl⟩, trivial⟩ (.cons 2 rfl rfl (.refl _) rfl (.cons 3 rfl rfl (.refl _) rfl .nil)) rfl rfl (by rw [hK]; rfl)⟩
          omega
      · have k1 : ¬ p = x := fun e => hb (z1.2 e)
        repeat (first | refine gA ?_ | refine gB ?_ | refine gC rfl ?_ | refine gD rfl ?_ | ((first | refine gE env hN (by kernel_rfl) ?_ | refine gF ?_ | refine gG ?_ | refine gH fun hlen => ?_ | refine gI (by kernel_rfl) ?_ | refine gN rfl ?_ | refine gN (by omega) ?_ | refine gJ rfl ?_ | refine gK (by omega) ?_ | refine gL (by omega) ?_ | refine gK rfl ?_ | refine gO ?_); conv => whnf))
        (refine ⟨_, _, _, callG [] [] [] rfl rfl rfl (by kernel_rfl) (sA) (by repeat' (first | exact trivial | exact Lent.refl _ | exact Lent.norm _ | apply And.intro)) rfl ⟨rfl, rfl, rfl, rfl, rfl, trivial, rfl, rfl⟩, ?_⟩; conv => whnf)
        repeat (first | refine gA ?_ | refine gB ?_ | refine gC rfl ?_ | refine gD rfl ?_ | ((first | refine gE env hN (by kernel_rfl) ?_ | refine gF ?_ | refine gG ?_ | refine gH fun hlen => ?_ | refine gI (by kernel_rfl) ?_ | refine gN rfl ?_ | refine gN (by omega) ?_ | refine gJ rfl ?_ | refine gK (by omega) ?_ | refine gL (by omega) ?_ | refine gK rfl ?_ | refine gO ?_); conv => whnf))
        (refine ⟨_, _, _, callG [] [] [] rfl rfl rfl (by kernel_rfl) (sB2) (by repeat' (first | exact trivial | exact Lent.refl _ | exact Lent.norm _ | apply And.intro)) rfl ⟨rfl, rfl, rfl, rfl, rfl, trivial, rfl, rfl⟩, ?_⟩; conv => whnf)
        repeat (first | refine gA ?_ | refine gB ?_ | refine gC rfl ?_ | refine gD rfl ?_ | ((first | refine gE env hN (by kernel_rfl) ?_ | refine gF ?_ | refine gG ?_ | refine gH fun hlen => ?_ | refine gI (by kernel_rfl) ?_ | refine gN rfl ?_ | refine gN (by omega) ?_ | refine gJ rfl ?_ | refine gK (by omega) ?_ | refine gL (by omega) ?_ | refine gK rfl ?_ | refine gO ?_); conv => whnf))
        (refine ⟨_, _, _, callG [] [] [] rfl rfl rfl (by kernel_rfl) (c2) (by repeat' (first | exact trivial | exact Lent.refl _ | exact Lent.norm _ | apply And.intro)) rfl ⟨rfl, rfl, rfl, rfl, rfl, trivial, rfl, rfl⟩, ?_⟩; conv => whnf)
        repeat (first | refine gA ?_ | refine gB ?_ | refine gC rfl ?_ | refine gD rfl ?_ | ((first | refine gE env hN (by kernel_rfl) ?_ | refine gF ?_ | refine gG ?_ | refine gH fun hlen => ?_ | refine gI (by kernel_rfl) ?_ | refine gN rfl ?_ | refine gN (by omega) ?_ | refine gJ rfl ?_ | refine gK (by omega) ?_ | refine gL (by omega) ?_ | refine gK rfl ?_ | refine gO ?_); conv => whnf))
        refine boolRes_split (fun hb => ?_) (fun hb => ?_) <;> conv => whnf
        · repeat (first | refine gA ?_ | refine gB ?_ | refine gC rfl ?_ | refine gD rfl ?_ | ((first | refine gE env hN (by kernel_rfl) ?_ | refine gF ?_ | refine gG ?_ | refine gH fun hlen => ?_ | refine gI (by kernel_rfl) ?_ | refine gN rfl ?_ | refine gN (by omega) ?_ | refine gJ rfl ?_ | refine gK (by omega) ?_ | refine gL (by omega) ?_ | refine gK rfl ?_ | refine gO ?_); conv => whnf))
          refine ⟨_, _, ?_, ⟨k + 1, by omega, rfl, rfl⟩, [(2, 2), (3, 3)], [], [], LeG.mk' rfl rfl rfl ⟨⟨_, .refl _, rfl⟩, ⟨_, .refl _, rfl⟩, ⟨_, .refl _, rfl⟩, (by rw [n1, if_neg k1]; exact ⟨_, .refl _, rfl⟩), (by rw [n2, if_pos (z2.1 hb)]; exact ⟨_, .refl _, rfl⟩), ⟨_, .refl _, rfl⟩, trivial⟩ (.cons 2 rfl rfl (.refl _) rfl (.cons 3 rfl rfl (.refl _) rfl .nil)) rfl rfl (by rw [hK]; rfl)⟩
          omega
        · repeat (first | refine gA ?_ | refine gB ?_ | refine gC rfl ?_ | refine gD rfl ?_ | ((first | refine gE env hN (by kernel_rfl) ?_ | refine gF ?_ | refine gG ?_ | refine gH fun hlen => ?_ | refine gI (by kernel_rfl) ?_ | refine gN rfl ?_ | refine gN (by omega) ?_ | refine gJ rfl ?_ | refine gK (by omega) ?_ | refine gL (by omega) ?_ | refine gK rfl ?_ | refine gO ?_); conv => whnf))
          refine ⟨_, _, ?_, ⟨k + 1, by omega, rfl, rfl⟩, [(2, 2), (3, 3)], [], [], LeG.mk' rfl rfl rfl ⟨⟨_, .refl _, rfl⟩, ⟨_, .refl _, rfl⟩, ⟨_, .refl _, rfl⟩, (by rw [n1, if_neg k1]; exact ⟨_, .refl _, rfl⟩), (by rw [n2, if_neg (fun e => hb (z2.2 e))]; exact ⟨_, .refl _, rfl⟩), ⟨_, .refl _, rfl⟩, trivial⟩ (.cons 2 rfl rfl (.refl _) rfl (.cons 3 rfl rfl (.refl _) rfl .nil)) rfl rfl (by rw [hK]; rfl)⟩
          omega
    · have hke : k = A.length := by omega
      have e1 : (A.take k).count p = 1 := by rw [hke, List.take_length]; exact hcA
      have e2 : (B.take k).count p = 1 := by rw [hke, hlenAB, List.take_length]; exact hcB
      repeat (first | refine gA ?_ | refine gB ?_ | refine gC rfl ?_ | refine gD rfl ?_ | ((first | refine gE env hN (by kernel_rfl) ?_ | refine gF ?_ | refine gG ?_ | refine gH fun hlen => ?_ | refine gI (by kernel_rfl) ?_ | refine gN rfl ?_ | refine gN (by omega) ?_ | refine gJ rfl ?_ | refine gK (by omega) ?_ | refine gL (by omega) ?_ | refine gK rfl ?_ | refine gO ?_); conv => whnf))
      refine ⟨_, _, ?_, ⟨r + 1, by omega, rfl, rfl⟩, ⟨[(2, 2), (3, 3)], [], [], LeG.mk' rfl rfl rfl (by repeat' (first | exact trivial | exact ⟨_, .refl _, rfl⟩ | apply And.intro)) (.cons 2 rfl rfl (.refl _) rfl (.cons 3 rfl rfl (.refl _) rfl .nil)) rfl rfl (by rw [hK]; rfl)⟩⟩
      omega
  · repeat (first | refine gA ?_ | refine gB ?_ | refine gC rfl ?_ | refine gD rfl ?_ | ((first | refine gE env hN (by kernel_rfl) ?_ | refine gF ?_ | refine gG ?_ | refine gH fun hlen => ?_ | refine gI (by kernel_rfl) ?_ | refine gN rfl ?_ | refine gN (by omega) ?_ | refine gJ rfl ?_ | refine gK (by omega) ?_ | refine gL (by omega) ?_ | refine gK rfl ?_ | refine gO ?_ | refine gM ?_); conv => whnf))
    exact ret0 rfl rfl rfl
end Go.Sx.Sp
namespace Go.Sx.Sp
open Go Go.Sx Go.Proofs
attribute [local irreducible] GoodW
theorem Fits.same {P B : List Pair} {dk : List Str} {ad : List Pair} (h : Fits B dk ad) (hPB : ∀ p, p ∈ P ↔ p ∈ B) : Fits P dk ad := by
  have hk : ∀ s, s ∈ P.map Prod.fst ↔ s ∈ B.map Prod.fst := fun s => by
    simp only [List.mem_map]
    exact ⟨fun ⟨p, hp, e⟩ => ⟨p, (hPB p).1 hp, e⟩, fun ⟨p, hp, e⟩ => ⟨p, (hPB p).2 hp, e⟩⟩
  exact ⟨h.nd, fun s hs => (hk s).2 (h.sub s hs), h.an, fun p hp hm => h.dis p hp ((hk _).1 hm), h.ac, h.al⟩
theorem mem_app_same {P B : List Pair} {dk : List Str} {ad : List Pair} (hPB : ∀ p, p ∈ P ↔ p ∈ B) (p : Pair) : p ∈ appP P dk ad ↔ p ∈ appP B dk ad := by
  unfold appP
  rw [List.mem_append, List.mem_append, List.mem_filter, List.mem_filter, hPB]
theorem app_ok {P ad : List Pair} {dk : List Str} (h : PairOK P) (f : Fits P dk ad) (g : PairOK ad) : PairOK (appP P dk ad) := by
  refine ⟨?_, fun p hp => ?_, fun p hp => ?_⟩
  · unfold appP
    rw [List.map_append, List.nodup_append]
    refine ⟨(h.filter _).nd, g.nd, fun a ha b hb e => ?_⟩
    subst e
    obtain ⟨p, hp, rfl⟩ := List.mem_map.1 ha
    obtain ⟨q, hq, e⟩ := List.mem_map.1 hb
    obtain ⟨hpA, hn⟩ := List.mem_filter.1 hp
    have hn : p.1 ∉ dk := of_decide_eq_true hn
    exact hn (by rw [← e]; exact f.dis q hq (by rw [e]; exact List.mem_map_of_mem hpA))
  · unfold appP at hp
    rcases List.mem_append.1 hp with hp | hp
    · exact h.kw p (List.mem_filter.1 hp).1
    · exact g.kw p hp
  · unfold appP at hp
    rcases List.mem_append.1 hp with hp | hp
    · exact h.vw p (List.mem_filter.1 hp).1
    · exact g.vw p hp
def chainP (A B C : List Pair) : List Pair := appP (leadP A B) ((sortP (outP B C)).map Prod.fst) (sortP (outP C B))
section
variable {A B C : List Pair}
theorem chain_fits (h : PairOK A) (g : PairOK B) (k : PairOK C) : Fits (leadP A B) ((sortP (outP B C)).map Prod.fst) (sortP (outP C B)) := (fits_lead g k).same (mem_leadP h g)
theorem chain_apply {i : Int} (h : PairOK A) (g : PairOK B) (k : PairOK C) (hi : 0 ≤ i ∧ i ≤ 1073741824) : applyM (pairT i (leadP A B)) 1 (leadD B C) = (pairT i (chainP A B C), 0) :=
  fits_apply (leadP_ok h g) hi (chain_fits h g k)
theorem mem_chain (h : PairOK A) (g : PairOK B) (k : PairOK C) (p : Pair) : p ∈ chainP A B C ↔ p ∈ C := by
  unfold chainP
  rw [mem_app_same (mem_leadP h g)]
  exact mem_leadP g k p
theorem chain_ok (h : PairOK A) (g : PairOK B) (k : PairOK C) : PairOK (chainP A B C) := app_ok (leadP_ok h g) (chain_fits h g k) (k.outP B).sortP
theorem lead_drop (A B : List Pair) : (leadD A B).drop.length ≤ A.length := by
  unfold leadD dlt
  simp only [List.length_map]
  unfold sortP
  rw [sortK_len]
  exact List.length_filter_le _ _
theorem lead_add (h : PairOK A) (g : PairOK B) : (leadD A B).add.length ≤ 7 := by
  have := ((g.outP A).sortP).len
  unfold leadD dlt
  simpa using this
end
set_option maxHeartbeats 16000000 in
theorem chain_law (l : List Int) : Spec Tryd.prog 3 [.sl (intRows .i64 l) false] [] (.bool true) [] := by
  have hl := intRows_len .i64 l
  have spL := light_spec l
  have spA := awake37_spec
  refine Spec.body env Tryd.func3 rfl (by kernel_rfl) (Nat.le_of_ble_eq_true (by kernel_rfl)) (keysSub rfl) fun Γ hN hK => ?_; have hML : maxLen = 9223372036854775807 := by unfold maxLen; rfl
  by_cases hll : l.length ≤ 500
  · rw [decide_eq_true hll] at spL
    obtain ⟨okA, hpA, lA, spKA⟩ := pairsF_ok (l := l) (p := 0) (by omega)
    have sp1 := spKA 1
    obtain ⟨okB, hpB, lB, spKB⟩ := pairsF_ok (l := l) (p := (keyR l 0).2) hpA
    have sp2 := spKB 2
    obtain ⟨okC, hpC, lC, spKC⟩ := pairsF_ok (l := l) (p := (keyR l (keyR l 0).2).2) hpB
    have sp3 := spKC 3
    generalize pairsF l (keyR l (keyR l 0).2).2 = C at *
    generalize pairsF l (keyR l 0).2 = B at *
    generalize pairsF l 0 = A at *
    clear spKA spKB spKC
    have lQ := (chain_ok okA okB okC).len
    have o1 := of_spec (pairT 1 A) (pairT 2 B) 1 (by rw [pair_rows]; omega) (by rw [pair_rows]; omega)
    rw [pair_of okA okB (by omega) (by omega)] at o1
    have o2 := of_spec (pairT 2 B) (pairT 3 C) 1 (by rw [pair_rows]; omega) (by rw [pair_rows]; omega)
    rw [pair_of okB okC (by omega) (by omega)] at o2
    have a1 := apply_spec (pairT 1 A) 1 (leadD A B) (by have := lead_drop A B; omega) (by have := lead_add okA okB; omega)
    rw [lead_apply okA okB (by omega)] at a1
    have a2 := apply_spec (pairT 1 (leadP A B)) 1 (leadD B C) (by have := lead_drop B C; omega) (by have := lead_add okB okC; omega)
    rw [chain_apply okA okB okC (by omega)] at a2
    have o3 := of_spec (pairT 1 (chainP A B C)) (pairT 3 C) 1 (by rw [pair_rows]; omega) (by rw [pair_rows]; omega)
    rw [pair_of (chain_ok okA okB okC) okC (by omega) (by omega), lead_none (mem_chain okA okB okC)] at o3
    have sr := sameRows_spec (i := 1) (j := 3) (chain_ok okA okB okC) okC (by omega) (by omega) (mem_chain okA okB okC)
    have hx := lead_drop A B
    have r3 := rows3_spec (pairT 1 A)
    rw [pair_rows] at r3
    generalize leadD A B = X at *
    generalize leadD B C = Y at *
    generalize pairT 1 (leadP A B) = P at *
    generalize pairT 1 (chainP A B C) = R at *
    generalize pairT 1 A = TA at *
    generalize pairT 2 B = TB at *
    generalize pairT 3 C = TC at *
    have hcx := cellRows_len X.drop
    repeat (first | refine gA ?_ | refine gB ?_ | refine gC rfl ?_ | refine gD rfl ?_ | ((first | refine gE env hN (by kernel_rfl) ?_ | refine gF ?_ | refine gG ?_ | refine gH fun hlen => ?_ | refine gI (by kernel_rfl) ?_ | refine gN rfl ?_ | refine gN (by omega) ?_ | refine gJ rfl ?_ | refine gK (by omega) ?_ | refine gL (by omega) ?_ | refine gK rfl ?_ | refine gO ?_); conv => whnf))
    (refine ⟨_, _, _, callG [] [] [] rfl rfl rfl (by kernel_rfl) (spL) (by repeat' (first | exact trivial | exact Lent.refl _ | exact Lent.norm _ | apply And.intro)) rfl ⟨rfl, rfl, rfl, rfl, rfl, trivial, rfl, rfl⟩, ?_⟩; conv => whnf)
    repeat (first | refine gA ?_ | refine gB ?_ | refine gC rfl ?_ | refine gD rfl ?_ | ((first | refine gE env hN (by kernel_rfl) ?_ | refine gF ?_ | refine gG ?_ | refine gH fun hlen => ?_ | refine gI (by kernel_rfl) ?_ | refine gN rfl ?_ | refine gN (by omega) ?_ | refine gJ rfl ?_ | refine gK (by omega) ?_ | refine gL (by omega) ?_ | refine gK rfl ?_ | refine gO ?_); conv => whnf))
    (refine ⟨_, _, _, callG [] [(5, 70)] [] rfl rfl rfl (by kernel_rfl) (roll_spec l) (by repeat' (first | exact trivial | exact Lent.refl _ | exact Lent.norm _ | apply And.intro)) rfl ⟨rfl, rfl, rfl, rfl, rfl, by repeat' (first | exact trivial | rfl | apply And.intro), rfl, rfl⟩, ?_⟩; conv => whnf)
    repeat (first | refine gA ?_ | refine gB ?_ | refine gC rfl ?_ | refine gD rfl ?_ | ((first | refine gE env hN (by kernel_rfl) ?_ | refine gF ?_ | refine gG ?_ | refine gH fun hlen => ?_ | refine gI (by kernel_rfl) ?_ | refine gN rfl ?_ | refine gN (by omega) ?_ | refine gJ rfl ?_ | refine gK (by omega) ?_ | refine gL (by omega) ?_ | refine gK rfl ?_ | refine gO ?_); conv => whnf))
    (refine ⟨_, _, _, callG [(0, 70)] [] [] rfl rfl rfl (by kernel_rfl) (sp1) (by repeat' (first | exact trivial | exact Lent.refl _ | exact Lent.norm _ | exact Lent.whole rfl rfl (by first | rfl | exact List.length_append.symm | exact hlenR | simp) rfl (by first | exact .inl rfl | exact .inr rfl) | apply And.intro)) rfl ⟨rfl, rfl, rfl, rfl, rfl, by repeat' (first | exact trivial | rfl | apply And.intro), rfl, rfl⟩, ?_⟩; conv => whnf)
    repeat (first | refine gA ?_ | refine gB ?_ | refine gC rfl ?_ | refine gD rfl ?_ | ((first | refine gE env hN (by kernel_rfl) ?_ | refine gF ?_ | refine gG ?_ | refine gH fun hlen => ?_ | refine gI (by kernel_rfl) ?_ | refine gN rfl ?_ | refine gN (by omega) ?_ | refine gJ rfl ?_ | refine gK (by omega) ?_ | refine gL (by omega) ?_ | refine gK rfl ?_ | refine gO ?_); conv => whnf))
    (refine ⟨_, _, _, callG [(0, 70)] [] [] rfl rfl rfl (by kernel_rfl) (sp2) (by repeat' (first | exact trivial | exact Lent.refl _ | exact Lent.norm _ | exact Lent.whole rfl rfl (by first | rfl | exact List.length_append.symm | exact hlenR | simp) rfl (by first | exact .inl rfl | exact .inr rfl) | apply And.intro)) rfl ⟨rfl, rfl, rfl, rfl, rfl, by repeat' (first | exact trivial | rfl | apply And.intro), rfl, rfl⟩, ?_⟩; conv => whnf)
    repeat (first | refine gA ?_ | refine gB ?_ | refine gC rfl ?_ | refine gD rfl ?_ | ((first | refine gE env hN (by kernel_rfl) ?_ | refine gF ?_ | refine gG ?_ | refine gH fun hlen => ?_ | refine gI (by kernel_rfl) ?_ | refine gN rfl ?_ | refine gN (by omega) ?_ | refine gJ rfl ?_ | refine gK (by omega) ?_ | refine gL (by omega) ?_ | refine gK rfl ?_ | refine gO ?_); conv => whnf))
    (refine ⟨_, _, _, callG [(0, 70)] [] [] rfl rfl rfl (by kernel_rfl) (sp3) (by repeat' (first | exact trivial | exact Lent.refl _ | exact Lent.norm _ | exact Lent.whole rfl rfl (by first | rfl | exact List.length_append.symm | exact hlenR | simp) rfl (by first | exact .inl rfl | exact .inr rfl) | apply And.intro)) rfl ⟨rfl, rfl, rfl, rfl, rfl, by repeat' (first | exact trivial | rfl | apply And.intro), rfl, rfl⟩, ?_⟩; conv => whnf)
    repeat ((first | refine gI (by kernel_rfl) ?_ | refine gH fun hlen => ?_ | refine gN rfl ?_ | refine gN (by omega) ?_ | refine gJ rfl ?_ | refine gK (by omega) ?_ | refine gL (by omega) ?_ | refine gK rfl ?_ | refine gO ?_); conv => whnf)
    refine gA ?_
    refine W.leG (mp := [(4, 4), (5, 5), (6, 6)]) (bo := []) (st' := ⟨[(4, .bp 4 0), (5, .bp 5 0), (6, .bp 6 0)], [(4, [.rows 3 [TA.row] none]), (5, [.rows 3 [TB.row] none]), (6, [.rows 3 [TC.row] none])], [4, 5, 6]⟩)
      (LeG.mk' rfl rfl rfl (by repeat' (first | exact trivial | exact ⟨_, .refl _, rfl⟩ | apply And.intro)) (.cons 4 rfl rfl (.refl _) rfl (.cons 5 rfl rfl (.refl _) rfl (.cons 6 rfl rfl (.refl _) rfl .nil))) rfl rfl (by rw [hK]; rfl)) ?_
    repeat (first | refine gA ?_ | refine gB ?_ | refine gC rfl ?_ | refine gD rfl ?_ | ((first | refine gE env hN (by kernel_rfl) ?_ | refine gF ?_ | refine gG ?_ | refine gH fun hlen => ?_ | refine gI (by kernel_rfl) ?_ | refine gN rfl ?_ | refine gN (by omega) ?_ | refine gJ rfl ?_ | refine gK (by omega) ?_ | refine gL (by omega) ?_ | refine gK rfl ?_ | refine gO ?_); conv => whnf))
    (refine ⟨_, _, _, callG [] [] [] rfl rfl rfl (by kernel_rfl) (o1) (by repeat' (first | exact trivial | exact Lent.refl _ | exact Lent.norm _ | apply And.intro)) rfl ⟨rfl, rfl, rfl, rfl, rfl, trivial, rfl, rfl⟩, ?_⟩; conv => whnf)
    repeat (first | refine gA ?_ | refine gB ?_ | refine gC rfl ?_ | refine gD rfl ?_ | ((first | refine gE env hN (by kernel_rfl) ?_ | refine gF ?_ | refine gG ?_ | refine gH fun hlen => ?_ | refine gI (by kernel_rfl) ?_ | refine gN rfl ?_ | refine gN (by omega) ?_ | refine gJ rfl ?_ | refine gK (by omega) ?_ | refine gL (by omega) ?_ | refine gK rfl ?_ | refine gO ?_); conv => whnf))
    (refine ⟨_, _, _, callG [] [] [] rfl rfl rfl (by kernel_rfl) (o2) (by repeat' (first | exact trivial | exact Lent.refl _ | exact Lent.norm _ | apply And.intro)) rfl ⟨rfl, rfl, rfl, rfl, rfl, trivial, rfl, rfl⟩, ?_⟩; conv => whnf)
    repeat (first | refine gA ?_ | refine gB ?_ | refine gC rfl ?_ | refine gD rfl ?_ | ((first | refine gE env hN (by kernel_rfl) ?_ | refine gF ?_ | refine gG ?_ | refine gH fun hlen => ?_ | refine gI (by kernel_rfl) ?_ | refine gN rfl ?_ | refine gN (by omega) ?_ | refine gJ rfl ?_ | refine gK (by omega) ?_ | refine gL (by omega) ?_ | refine gK rfl ?_ | refine gO ?_); conv => whnf))
    (refine ⟨_, _, _, callG [] [] [] rfl rfl rfl (by kernel_rfl) (a1) (by repeat' (first | exact trivial | exact Lent.refl _ | exact Lent.norm _ | apply And.intro)) rfl ⟨rfl, rfl, rfl, rfl, rfl, trivial, rfl, rfl⟩, ?_⟩; conv => whnf)
    repeat ((first | refine gI (by kernel_rfl) ?_ | refine gH fun hlen => ?_ | refine gN rfl ?_ | refine gN (by omega) ?_ | refine gJ rfl ?_ | refine gK (by omega) ?_ | refine gL (by omega) ?_ | refine gK rfl ?_ | refine gO ?_); conv => whnf)
    refine gA ?_
    refine W.leG (mp := [(4, 4), (5, 5), (6, 6), (7, 7), (9, 9), (11, 11)]) (bo := []) (st' := ⟨[(4, .bp 4 0), (5, .bp 5 0), (6, .bp 6 0), (7, .bp 7 0), (8, .int .i64 0), (9, .bp 9 0), (10, .int .i64 0), (11, .bp 11 0), (12, .int .i64 0)], [(4, [.rows 3 [TA.row] none]), (5, [.rows 3 [TB.row] none]), (6, [.rows 3 [TC.row] none]), (7, [.rows 2 [X.row] none]), (9, [.rows 2 [Y.row] none]), (11, [.rows 3 [P.row] none])], [4, 5, 6, 7, 9, 11]⟩)
      (LeG.mk' rfl rfl rfl (by repeat' (first | exact trivial | exact ⟨_, .refl _, rfl⟩ | apply And.intro)) (.cons 4 rfl rfl (.refl _) rfl (.cons 5 rfl rfl (.refl _) rfl (.cons 6 rfl rfl (.refl _) rfl (.cons 7 rfl rfl (.refl _) rfl (.cons 9 rfl rfl (.refl _) rfl (.cons 11 rfl rfl (.refl _) rfl .nil)))))) rfl rfl (by rw [hK]; rfl)) ?_
    repeat (first | refine gA ?_ | refine gB ?_ | refine gC rfl ?_ | refine gD rfl ?_ | ((first | refine gE env hN (by kernel_rfl) ?_ | refine gF ?_ | refine gG ?_ | refine gH fun hlen => ?_ | refine gI (by kernel_rfl) ?_ | refine gN rfl ?_ | refine gN (by omega) ?_ | refine gJ rfl ?_ | refine gK (by omega) ?_ | refine gL (by omega) ?_ | refine gK rfl ?_ | refine gO ?_); conv => whnf))
    (refine ⟨_, _, _, callG [] [] [] rfl rfl rfl (by kernel_rfl) (a2) (by repeat' (first | exact trivial | exact Lent.refl _ | exact Lent.norm _ | apply And.intro)) rfl ⟨rfl, rfl, rfl, rfl, rfl, trivial, rfl, rfl⟩, ?_⟩; conv => whnf)
    repeat (first | refine gA ?_ | refine gB ?_ | refine gC rfl ?_ | refine gD rfl ?_ | ((first | refine gE env hN (by kernel_rfl) ?_ | refine gF ?_ | refine gG ?_ | refine gH fun hlen => ?_ | refine gI (by kernel_rfl) ?_ | refine gN rfl ?_ | refine gN (by omega) ?_ | refine gJ rfl ?_ | refine gK (by omega) ?_ | refine gL (by omega) ?_ | refine gK rfl ?_ | refine gO ?_); conv => whnf))
    (refine ⟨_, _, _, callG [] [] [] rfl rfl rfl (by kernel_rfl) (o3) (by repeat' (first | exact trivial | exact Lent.refl _ | exact Lent.norm _ | apply And.intro)) rfl ⟨rfl, rfl, rfl, rfl, rfl, trivial, rfl, rfl⟩, ?_⟩; conv => whnf)
    repeat ((first | refine gI (by kernel_rfl) ?_ | refine gH fun hlen => ?_ | refine gN rfl ?_ | refine gN (by omega) ?_ | refine gJ rfl ?_ | refine gK (by omega) ?_ | refine gL (by omega) ?_ | refine gK rfl ?_ | refine gO ?_); conv => whnf)
    refine gA ?_
    refine W.leG (mp := [(4, 4), (6, 6), (7, 7), (13, 13), (15, 15)]) (bo := []) (st' := ⟨[(4, .bp 4 0), (6, .bp 6 0), (7, .bp 7 0), (8, .int .i64 0), (10, .int .i64 0), (12, .int .i64 0), (13, .bp 13 0), (14, .int .i64 0), (15, .bp 15 0), (16, .int .i64 0)], [(4, [.rows 3 [TA.row] none]), (6, [.rows 3 [TC.row] none]), (7, [.rows 2 [X.row] none]), (13, [.rows 3 [R.row] none]), (15, [.rows 2 [Delta.row ⟨[], []⟩] none])], [4, 6, 7, 13, 15]⟩)
      (LeG.mk' rfl rfl rfl (by repeat' (first | exact trivial | exact ⟨_, .refl _, rfl⟩ | apply And.intro)) (.cons 4 rfl rfl (.refl _) rfl (.cons 6 rfl rfl (.refl _) rfl (.cons 7 rfl rfl (.refl _) rfl (.cons 13 rfl rfl (.refl _) rfl (.cons 15 rfl rfl (.refl _) rfl .nil))))) rfl rfl (by rw [hK]; rfl)) ?_
    repeat (first | refine gA ?_ | refine gB ?_ | refine gC rfl ?_ | refine gD rfl ?_ | ((first | refine gE env hN (by kernel_rfl) ?_ | refine gF ?_ | refine gG ?_ | refine gH fun hlen => ?_ | refine gI (by kernel_rfl) ?_ | refine gN rfl ?_ | refine gN (by omega) ?_ | refine gJ rfl ?_ | refine gK (by omega) ?_ | refine gL (by omega) ?_ | refine gK rfl ?_ | refine gO ?_); conv => whnf))
    (refine ⟨_, _, _, callG [] [] [] rfl rfl rfl (by kernel_rfl) (sr) (by repeat' (first | exact trivial | exact Lent.refl _ | exact Lent.norm _ | apply And.intro)) rfl ⟨rfl, rfl, rfl, rfl, rfl, trivial, rfl, rfl⟩, ?_⟩; conv => whnf)
    repeat (first | refine gA ?_ | refine gB ?_ | refine gC rfl ?_ | refine gD rfl ?_ | ((first | refine gE env hN (by kernel_rfl) ?_ | refine gF ?_ | refine gG ?_ | refine gH fun hlen => ?_ | refine gI (by kernel_rfl) ?_ | refine gN rfl ?_ | refine gN (by omega) ?_ | refine gJ rfl ?_ | refine gK (by omega) ?_ | refine gL (by omega) ?_ | refine gK rfl ?_ | refine gO ?_); conv => whnf))
    refine And.intro ⟨by decide, by decide⟩ ?_
    conv => whnf
    refine gK rfl ?_
    conv => whnf
    repeat (first | refine gA ?_ | refine gB ?_ | refine gC rfl ?_ | refine gD rfl ?_ | ((first | refine gE env hN (by kernel_rfl) ?_ | refine gF ?_ | refine gG ?_ | refine gH fun hlen => ?_ | refine gI (by kernel_rfl) ?_ | refine gN rfl ?_ | refine gN (by omega) ?_ | refine gJ rfl ?_ | refine gK (by omega) ?_ | refine gL (by omega) ?_ | refine gK rfl ?_ | refine gO ?_); conv => whnf))
    (refine ⟨_, _, _, callG [] [] [] rfl rfl rfl (by kernel_rfl) (r3) (by repeat' (first | exact trivial | exact Lent.refl _ | exact Lent.norm _ | apply And.intro)) rfl ⟨rfl, rfl, rfl, rfl, rfl, trivial, rfl, rfl⟩, ?_⟩; conv => whnf)
    repeat (first | refine gA ?_ | refine gB ?_ | refine gC rfl ?_ | refine gD rfl ?_ | ((first | refine gE env hN (by kernel_rfl) ?_ | refine gF ?_ | refine gG ?_ | refine gH fun hlen => ?_ | refine gI (by kernel_rfl) ?_ | refine gN rfl ?_ | refine gN (by omega) ?_ | refine gJ rfl ?_ | refine gK (by omega) ?_ | refine gL (by omega) ?_ | refine gK rfl ?_ | refine gO ?_); conv => whnf))
    (refine ⟨_, _, _, callG [] [] [] rfl rfl rfl (by kernel_rfl) (spA) (by repeat' (first | exact trivial | exact Lent.refl _ | exact Lent.norm _ | apply And.intro)) rfl ⟨rfl, rfl, rfl, rfl, rfl, trivial, rfl, rfl⟩, ?_⟩; conv => whnf)
    repeat (first | refine gA ?_ | refine gB ?_ | refine gC rfl ?_ | refine gD rfl ?_ | ((first | refine gE env hN (by kernel_rfl) ?_ | refine gF ?_ | refine gG ?_ | refine gH fun hlen => ?_ | refine gI (by kernel_rfl) ?_ | refine gN rfl ?_ | refine gN (by omega) ?_ | refine gJ rfl ?_ | refine gK (by omega) ?_ | refine gL (by omega) ?_ | refine gK rfl ?_ | refine gO ?_ | refine gM ?_); conv => whnf))
    exact ret0 rfl rfl rfl
  · rw [decide_eq_false hll] at spL
    repeat (first | refine gA ?_ | refine gB ?_ | refine gC rfl ?_ | refine gD rfl ?_ | ((first | refine gE env hN (by kernel_rfl) ?_ | refine gF ?_ | refine gG ?_ | refine gH fun hlen => ?_ | refine gI (by kernel_rfl) ?_ | refine gN rfl ?_ | refine gN (by omega) ?_ | refine gJ rfl ?_ | refine gK (by omega) ?_ | refine gL (by omega) ?_ | refine gK rfl ?_ | refine gO ?_); conv => whnf))
    (refine ⟨_, _, _, callG [] [] [] rfl rfl rfl (by kernel_rfl) (spL) (by repeat' (first | exact trivial | exact Lent.refl _ | exact Lent.norm _ | apply And.intro)) rfl ⟨rfl, rfl, rfl, rfl, rfl, trivial, rfl, rfl⟩, ?_⟩; conv => whnf)
    repeat (first | refine gA ?_ | refine gB ?_ | refine gC rfl ?_ | refine gD rfl ?_ | ((first | refine gE env hN (by kernel_rfl) ?_ | refine gF ?_ | refine gG ?_ | refine gH fun hlen => ?_ | refine gI (by kernel_rfl) ?_ | refine gN rfl ?_ | refine gN (by omega) ?_ | refine gJ rfl ?_ | refine gK (by omega) ?_ | refine gL (by omega) ?_ | refine gK rfl ?_ | refine gO ?_); conv => whnf))
    (refine ⟨_, _, _, callG [] [] [] rfl rfl rfl (by kernel_rfl) (spA) (by repeat' (first | exact trivial | exact Lent.refl _ | exact Lent.norm _ | apply And.intro)) rfl ⟨rfl, rfl, rfl, rfl, rfl, trivial, rfl, rfl⟩, ?_⟩; conv => whnf)
    repeat (first | refine gA ?_ | refine gB ?_ | refine gC rfl ?_ | refine gD rfl ?_ | ((first | refine gE env hN (by kernel_rfl) ?_ | refine gF ?_ | refine gG ?_ | refine gH fun hlen => ?_ | refine gI (by kernel_rfl) ?_ | refine gN rfl ?_ | refine gN (by omega) ?_ | refine gJ rfl ?_ | refine gK (by omega) ?_ | refine gL (by omega) ?_ | refine gK rfl ?_ | refine gO ?_ | refine gM ?_); conv => whnf))
    exact ret0 rfl rfl rfl
end Go.Sx.Sp
namespace Go.Sx.Sp
open Go Go.Sx Go.Proofs
attribute [local irreducible] GoodW
def ixG (s : Str) (l : List Str) : Nat := (ixS s l).getD 0
def turnD (t : Table) (k : Nat) (d : Delta) : Delta := ⟨sortK Cell.text (d.add.map fun r => cellI r k), sortK (keyAt k) (d.drop.map fun c => rowM t (ixG c.text (textsOf (colK t k))))⟩
def turnM (t : Table) (key : Int) (d : Delta) : Delta × Int := if mayM t key d = 0 then (turnD t key.toNat d, 0) else (Delta.zero, mayM t key d)
theorem dropK_mem : ∀ (ds : List Cell) (L L' : List Str), dropK L ds = some L' → ∀ c ∈ ds, c.text ∈ L := by
  intro ds
  induction ds with
  | nil => intro L L' _ c hc; cases hc
  | cons d ds ih =>
    intro L L' h c hc
    unfold dropK at h
    split at h
    · rename_i h1
      rcases List.mem_cons.1 hc with rfl | hc
      · exact h1.1
      · exact List.mem_of_mem_erase (ih _ _ h c hc)
    · cases h
theorem may_ok {t : Table} {key : Int} {d : Delta} (h : mayM t key d = 0) : validB t = true ∧ goodD t.cols.length d = true ∧ checkM key [t] = 0 ∧ clashD (textsOf (colK t key.toNat)) key.toNat d = false ∧ (rowsN t : Int) - d.drop.length + d.add.length ≤ 4096 := by
  unfold mayM at h
  split at h
  · rename_i h1
    split at h
    · rename_i h2
      split at h
      · cases h
      · rename_i h3
        split at h
        · cases h
        · rename_i h4
          exact ⟨h1.1, h1.2, h2, by simpa using h3, by omega⟩
    · rename_i h2; exact absurd h h2
  · cases h
theorem good_row {n : Nat} {d : Delta} (h : goodD n d = true) {r : List Cell} (hr : r ∈ d.add) : r.length = n := by
  unfold goodD at h
  rw [Bool.and_eq_true] at h
  have := List.all_eq_true.1 h.1 r hr
  simp only [Bool.and_eq_true, decide_eq_true_eq] at this
  omega
theorem cell_at {r : List Cell} {k : Nat} (h : k < r.length) : r[k] = cellI r k := by simp [cellI, h]
theorem line_cell {r : List Cell} {k : Nat} (h : k < r.length) : (cellRows r)[k]? = some (cellI r k).row := by rw [cellRows_get h, cell_at h]
set_option maxHeartbeats 16000000 in
theorem turn_spec (t : Table) (key : Int) (d : Delta) (hdd : d.drop.length ≤ 12) (hda : d.add.length ≤ 12) : Spec Tryd.prog 24 [.agg t.row, .int .i64 key, .agg d.row] [] (.tup [.agg (turnM t key d).1.row, .int .i64 (turnM t key d).2]) [] := by
  have spM := may_spec t key d (by omega)
  refine Spec.body env Tryd.func24 rfl (by kernel_rfl) (Nat.le_of_ble_eq_true (by kernel_rfl)) (keysSub rfl) fun Γ hN hK => ?_; have hML : maxLen = 9223372036854775807 := by unfold maxLen; rfl
  by_cases hm : mayM t key d = 0
  · obtain ⟨hv, hg, hck, hcl, hsz⟩ := may_ok hm
    obtain ⟨k, rfl, hk, hkey⟩ := check_one hck
    have hof : turnM t k d = (turnD t k d, 0) := by unfold turnM; rw [if_pos hm]; simp
    rw [hof]
    rw [hm] at spM
    simp only [Int.toNat_natCast] at hcl
    have eA : colK t k = t.cols[k].cells := by simp [colK, hk]
    have lA : (colK t k).length = rowsN t := by rw [eA]; exact valid_cells hv _ (List.getElem_mem hk)
    obtain ⟨nA, dA⟩ := (keyB_iff _).1 hkey
    have f64a : t.cols.length ≤ 4294967295 := by
      simp only [validB, headB, Bool.and_eq_true, decide_eq_true_eq] at hv; omega
    have sp5 := byKey_spec t k hk (by rw [← eA]; exact dA)
    rw [← eA] at sp5
    have hdm : ∀ c ∈ d.drop, c.text ∈ textsOf (colK t k) := by
      unfold clashD at hcl
      split at hcl
      · cases hcl
      · rename_i L' hL; exact dropK_mem _ _ _ hL
    have rowA : ∀ i, i < rowsN t → Spec Tryd.prog 51 [.agg t.row, .int .i64 (i : Nat)] [] (.sl (cellRows (rowM t i)) false) [] := fun i hi => row_spec t i (fun c hc => by rw [valid_cells hv c hc]; exact hi) f64a
    have tA : (textsOf (colK t k)).length = rowsN t := by simp [textsOf, lA]
    have hal := lineRows_len d.add
    have hdl := cellRows_len d.drop
    repeat (first | refine gA ?_ | refine gB ?_ | refine gC rfl ?_ | refine gD rfl ?_ | ((first | refine gE env hN (by kernel_rfl) ?_ | refine gF ?_ | refine gG ?_ | refine gH fun hlen => ?_ | refine gI (by kernel_rfl) ?_ | refine gN rfl ?_ | refine gN (by omega) ?_ | refine gJ rfl ?_ | refine gK (by omega) ?_ | refine gL (by omega) ?_ | refine gK rfl ?_ | refine gO ?_); conv => whnf))
    (refine ⟨_, _, _, callG [] [] [] rfl rfl rfl (by kernel_rfl) (spM) (by repeat' (first | exact trivial | exact Lent.refl _ | exact Lent.norm _ | apply And.intro)) rfl ⟨rfl, rfl, rfl, rfl, rfl, trivial, rfl, rfl⟩, ?_⟩; conv => whnf)
    repeat (first | refine gA ?_ | refine gB ?_ | refine gC rfl ?_ | refine gD rfl ?_ | ((first | refine gE env hN (by kernel_rfl) ?_ | refine gF ?_ | refine gG ?_ | refine gH fun hlen => ?_ | refine gI (by kernel_rfl) ?_ | refine gN rfl ?_ | refine gN (by omega) ?_ | refine gJ rfl ?_ | refine gK (by omega) ?_ | refine gL (by omega) ?_ | refine gK rfl ?_ | refine gO ?_); conv => whnf))
    (refine ⟨_, _, _, callG [] [(8, 50)] [] rfl rfl rfl (by kernel_rfl) (sp5) (by repeat' (first | exact trivial | exact Lent.refl _ | exact Lent.norm _ | apply And.intro)) rfl ⟨rfl, rfl, rfl, rfl, rfl, by repeat' (first | exact trivial | rfl | apply And.intro), rfl, rfl⟩, ?_⟩; conv => whnf)
    repeat (first | refine gA ?_ | refine gB ?_ | refine gC rfl ?_ | refine gD rfl ?_ | ((first | refine gE env hN (by kernel_rfl) ?_ | refine gF ?_ | refine gG ?_ | refine gH fun hlen => ?_ | refine gI (by kernel_rfl) ?_ | refine gN rfl ?_ | refine gN (by omega) ?_ | refine gJ rfl ?_ | refine gK (by omega) ?_ | refine gL (by omega) ?_ | refine gK rfl ?_ | refine gO ?_); conv => whnf))
    refine W.ownCell 10 0 0 91 2 rfl rfl rfl rfl rfl ?_
    refine W.ownCell 10 0 1 92 1 rfl rfl rfl rfl rfl ?_
    refine W.loopG (fun n st => ∃ j : Nat, j ≤ d.add.length ∧ n = d.add.length - j ∧ st = ⟨[(1, .int .i64 k), (3, .bp 3 0), (5, .bp 5 0), (6, .bp 6 0), (9, .omap 50 0), (10, .bp 10 0), (27, .sl (lineRows d.add) false), (28, .int .i64 (lineRows d.add).length), (29, .int .i64 j)], [(3, [.rows 3 [t.row] none]), (5, [.rows 2 [d.row] none]), (6, [.rows 2 [[.nils, .nils]] none]), (50, [.map (ixMap (textsOf (colK t k))) (textsOf (colK t k)).length (some [])]), (10, [.rows 2 [[.osl 91 0 0 (cellRows ((d.add.take j).map fun r => cellI r k)).length (cellRows ((d.add.take j).map fun r => cellI r k)).length, .osl 92 0 0 0 0]] none]), (91, [.rows 2 (cellRows ((d.add.take j).map fun r => cellI r k)) (some [])]), (92, [.rows 1 [] (some [])])], [3, 5, 6, 50, 10, 91, 92]⟩)
      d.add.length _ ⟨0, by omega, by omega, rfl⟩ ⟨[(3, 3), (5, 5), (6, 6), (50, 50), (10, 10), (91, 91), (92, 92)], [], [], LeG.mk' rfl rfl rfl (by repeat' (first | exact trivial | exact ⟨_, .refl _, rfl⟩ | apply And.intro)) (.cons 3 rfl rfl (.refl _) rfl (.cons 5 rfl rfl (.refl _) rfl (.cons 6 rfl rfl (.refl _) rfl (.cons 50 rfl rfl (.refl _) rfl (.cons 10 rfl rfl (.refl _) rfl (.cons 91 rfl rfl (.refl _) rfl (.cons 92 rfl rfl (.refl _) rfl .nil))))))) rfl rfl (by rw [hK]; rfl)⟩ ?_
    rintro n st ⟨j, hj, rfl, rfl⟩
    repeat (first | refine gA ?_ | refine gB ?_ | refine gC rfl ?_ | refine gD rfl ?_ | ((first | refine gE env hN (by kernel_rfl) ?_ | refine gF ?_ | refine gG ?_ | refine gH fun hlen => ?_ | refine gI (by kernel_rfl) ?_ | refine gN rfl ?_ | refine gN (by omega) ?_ | refine gJ rfl ?_ | refine gK (by omega) ?_ | refine gL (by omega) ?_ | refine gK rfl ?_ | refine gO ?_); conv => whnf))
    refine boolRes_split (fun hb => ?_) (fun hb => ?_) <;> conv => whnf
    · have hlt : j < d.add.length := by omega
      have hrl : k < d.add[j].length := by rw [good_row hg (List.getElem_mem hlt)]; exact hk
      have hgl : (lineRows d.add)[j]? = some (lineV d.add[j]) := by simp [lineRows, hlt]
      have hsn : (d.add.take (j + 1)).map (fun r => cellI r k) = (d.add.take j).map (fun r => cellI r k) ++ [cellI d.add[j] k] := by rw [List.take_succ_eq_append_getElem hlt, List.map_append]; rfl
      have hcl2 := cellRows_len ((d.add.take j).map fun r => cellI r k)
      rw [List.length_map, List.length_take] at hcl2
      have hgk := line_cell hrl
      generalize d.add[j] = r at *
      repeat (first | refine gA ?_ | refine gB ?_ | refine gC rfl ?_ | refine gD rfl ?_ | ((first | refine gE env hN (by kernel_rfl) ?_ | refine gF ?_ | refine gG ?_ | refine gH fun hlen => ?_ | refine gI (by kernel_rfl) ?_ | refine gN rfl ?_ | refine gN (by omega) ?_ | refine gJ rfl ?_ | refine gK (by omega) ?_ | refine gL (by omega) ?_ | refine gK rfl ?_ | refine gO ?_); conv => whnf))
      refine rowAt_of (by simpa using hgl) ?_
      conv => whnf
      repeat (first | refine gA ?_ | refine gB ?_ | refine gC rfl ?_ | refine gD rfl ?_ | ((first | refine gE env hN (by kernel_rfl) ?_ | refine gF ?_ | refine gG ?_ | refine gH fun hlen => ?_ | refine gI (by kernel_rfl) ?_ | refine gN rfl ?_ | refine gN (by omega) ?_ | refine gJ rfl ?_ | refine gK (by omega) ?_ | refine gL (by omega) ?_ | refine gK rfl ?_ | refine gO ?_); conv => whnf))
      refine rowAt_of (by simpa using hgk) ?_
      conv => whnf
      repeat (first | refine gA ?_ | refine gB ?_ | refine gC rfl ?_ | refine gD rfl ?_ | ((first | refine gE env hN (by kernel_rfl) ?_ | refine gF ?_ | refine gG ?_ | refine gH fun hlen => ?_ | refine gI (by kernel_rfl) ?_ | refine gN rfl ?_ | refine gN (by omega) ?_ | refine gJ rfl ?_ | refine gK (by omega) ?_ | refine gL (by omega) ?_ | refine gK rfl ?_ | refine gO ?_); conv => whnf))
      refine ⟨⟨rowsSz_cons rfl rowsSz_nil, rfl⟩, fitsN (n := (cellRows ((d.add.take j).map fun r => cellI r k)).length + 1) (b := 24) (by omega) (by omega), .inl ⟨rfl, rfl, ?_⟩⟩
      conv => whnf
      repeat (first | refine gA ?_ | refine gB ?_ | refine gC rfl ?_ | refine gD rfl ?_ | ((first | refine gE env hN (by kernel_rfl) ?_ | refine gF ?_ | refine gG ?_ | refine gH fun hlen => ?_ | refine gI (by kernel_rfl) ?_ | refine gN rfl ?_ | refine gN (by omega) ?_ | refine gJ rfl ?_ | refine gK (by omega) ?_ | refine gL (by omega) ?_ | refine gK rfl ?_ | refine gO ?_); conv => whnf))
      refine ⟨_, _, ?_, ⟨j + 1, by omega, rfl, rfl⟩, [(3, 3), (5, 5), (6, 6), (50, 50), (10, 10), (91, 91), (92, 92)], [], [], LeG.mk' rfl rfl rfl (by repeat' (first | exact trivial | exact ⟨_, .refl _, rfl⟩ | apply And.intro)) (.cons 3 rfl rfl (.refl _) rfl (.cons 5 rfl rfl (.refl _) rfl (.cons 6 rfl rfl (.refl _) rfl (.cons 50 rfl rfl (.refl _) rfl (.cons 10 rfl rfl (.refl _) ?_ (.cons 91 rfl rfl (.refl _) ?_ (.cons 92 rfl rfl (.refl _) rfl .nil))))))) rfl rfl (by rw [hK]; rfl)⟩
      · omega
      · rw [hsn, cellRows_snoc, List.length_append]; rfl
      · rw [hsn, cellRows_snoc]; rfl
    · have hje : j = d.add.length := by omega
      rw [hje, List.take_length]
      have hq1 : (d.add.map fun r => cellI r k).length ≤ 12 := by simpa using hda
      have hq2 : (turnD t k d).drop = sortK Cell.text (d.add.map fun r => cellI r k) := rfl
      generalize (d.add.map fun r => cellI r k) = DR at *
      repeat (first | refine gA ?_ | refine gB ?_ | refine gC rfl ?_ | refine gD rfl ?_ | ((first | refine gE env hN (by kernel_rfl) ?_ | refine gF ?_ | refine gG ?_ | refine gH fun hlen => ?_ | refine gI (by kernel_rfl) ?_ | refine gN rfl ?_ | refine gN (by omega) ?_ | refine gJ rfl ?_ | refine gK (by omega) ?_ | refine gL (by omega) ?_ | refine gK rfl ?_ | refine gO ?_); conv => whnf))
      refine W.loopG (fun n st => ∃ j : Nat, j ≤ d.drop.length ∧ n = d.drop.length - j ∧ st = ⟨[(1, .int .i64 k), (3, .bp 3 0), (5, .bp 5 0), (6, .bp 6 0), (9, .omap 50 0), (10, .bp 10 0), (44, .sl (cellRows d.drop) false), (45, .int .i64 (cellRows d.drop).length), (46, .int .i64 j)], [(3, [.rows 3 [t.row] none]), (5, [.rows 2 [d.row] none]), (6, [.rows 2 [[.nils, .nils]] none]), (50, [.map (ixMap (textsOf (colK t k))) (textsOf (colK t k)).length (some [])]), (10, [.rows 2 [[.osl 91 0 0 (cellRows DR).length (cellRows DR).length, .osl 92 0 0 (lineRows ((d.drop.take j).map fun c => rowM t (ixG c.text (textsOf (colK t k))))).length (lineRows ((d.drop.take j).map fun c => rowM t (ixG c.text (textsOf (colK t k))))).length]] none]), (91, [.rows 2 (cellRows DR) (some [])]), (92, [.rows 1 (lineRows ((d.drop.take j).map fun c => rowM t (ixG c.text (textsOf (colK t k))))) (some [])])], [3, 5, 6, 50, 10, 91, 92]⟩)
        d.drop.length _ ⟨0, by omega, by omega, rfl⟩ ⟨[(3, 3), (5, 5), (6, 6), (50, 50), (10, 10), (91, 91), (92, 92)], [], [], LeG.mk' rfl rfl rfl (by repeat' (first | exact trivial | exact ⟨_, .refl _, rfl⟩ | apply And.intro)) (.cons 3 rfl rfl (.refl _) rfl (.cons 5 rfl rfl (.refl _) rfl (.cons 6 rfl rfl (.refl _) rfl (.cons 50 rfl rfl (.refl _) rfl (.cons 10 rfl rfl (.refl _) rfl (.cons 91 rfl rfl (.refl _) rfl (.cons 92 rfl rfl (.refl _) rfl .nil))))))) rfl rfl (by rw [hK]; rfl)⟩ ?_
      rintro n st ⟨j, hj, rfl, rfl⟩
      repeat (first | refine gA ?_ | refine gB ?_ | refine gC rfl ?_ | refine gD rfl ?_ | ((first | refine gE env hN (by kernel_rfl) ?_ | refine gF ?_ | refine gG ?_ | refine gH fun hlen => ?_ | refine gI (by kernel_rfl) ?_ | refine gN rfl ?_ | refine gN (by omega) ?_ | refine gJ rfl ?_ | refine gK (by omega) ?_ | refine gL (by omega) ?_ | refine gK rfl ?_ | refine gO ?_); conv => whnf))
      refine boolRes_split (fun hb => ?_) (fun hb => ?_) <;> conv => whnf
      · have hlt : j < d.drop.length := by omega
        have hgl := cellRows_get hlt
        have hmem := hdm _ (List.getElem_mem hlt)
        have hsn : (d.drop.take (j + 1)).map (fun c => rowM t (ixG c.text (textsOf (colK t k)))) = (d.drop.take j).map (fun c => rowM t (ixG c.text (textsOf (colK t k)))) ++ [rowM t (ixG d.drop[j].text (textsOf (colK t k)))] := by rw [List.take_succ_eq_append_getElem hlt, List.map_append]; rfl
        have hll2 := lineRows_len ((d.drop.take j).map fun c => rowM t (ixG c.text (textsOf (colK t k))))
        rw [List.length_map, List.length_take] at hll2
        generalize d.drop[j] = c at *
        have hlk := ixMap_look c.text (textsOf (colK t k))
        obtain ⟨i, hx⟩ : ∃ i, ixS c.text (textsOf (colK t k)) = some i := by
          cases hx : ixS c.text (textsOf (colK t k)) with
          | none => exact absurd hmem (ixS_none.1 hx)
          | some i => exact ⟨i, rfl⟩
        have hia : i < rowsN t := by
          have := (List.getElem?_eq_some_iff.1 (ixS_some hx)).1; omega
        have hig : ixG c.text (textsOf (colK t k)) = i := by simp [ixG, hx]
        rw [hig] at hsn
        rw [hx] at hlk
        have sp8 := rowA i hia
        repeat (first | refine gA ?_ | refine gB ?_ | refine gC rfl ?_ | refine gD rfl ?_ | ((first | refine gE env hN (by kernel_rfl) ?_ | refine gF ?_ | refine gG ?_ | refine gH fun hlen => ?_ | refine gI (by kernel_rfl) ?_ | refine gN rfl ?_ | refine gN (by omega) ?_ | refine gJ rfl ?_ | refine gK (by omega) ?_ | refine gL (by omega) ?_ | refine gK rfl ?_ | refine gO ?_); conv => whnf))
        refine rowAt_of (by simpa using hgl) ?_
        conv => whnf
        repeat (first | refine gA ?_ | refine gB ?_ | refine gC rfl ?_ | refine gD rfl ?_ | ((first | refine gE env hN (by kernel_rfl) ?_ | refine gF ?_ | refine gG ?_ | refine gH fun hlen => ?_ | refine gI (by kernel_rfl) ?_ | refine gN rfl ?_ | refine gN (by omega) ?_ | refine gJ rfl ?_ | refine gK (by omega) ?_ | refine gL (by omega) ?_ | refine gK rfl ?_ | refine gO ?_); conv => whnf))
        refine zok_intro (by kernel_rfl) ?_
        conv => whnf
        refine ⟨_, hlk, ?_⟩
        conv => whnf
        repeat (first | refine gA ?_ | refine gB ?_ | refine gC rfl ?_ | refine gD rfl ?_ | ((first | refine gE env hN (by kernel_rfl) ?_ | refine gF ?_ | refine gG ?_ | refine gH fun hlen => ?_ | refine gI (by kernel_rfl) ?_ | refine gN rfl ?_ | refine gN (by omega) ?_ | refine gJ rfl ?_ | refine gK (by omega) ?_ | refine gL (by omega) ?_ | refine gK rfl ?_ | refine gO ?_); conv => whnf))
        (refine ⟨_, _, _, callG [] [] [] rfl rfl rfl (by kernel_rfl) (sp8) (by repeat' (first | exact trivial | exact Lent.refl _ | exact Lent.norm _ | apply And.intro)) rfl ⟨rfl, rfl, rfl, rfl, rfl, trivial, rfl, rfl⟩, ?_⟩; conv => whnf)
        repeat (first | refine gA ?_ | refine gB ?_ | refine gC rfl ?_ | refine gD rfl ?_ | ((first | refine gE env hN (by kernel_rfl) ?_ | refine gF ?_ | refine gG ?_ | refine gH fun hlen => ?_ | refine gI (by kernel_rfl) ?_ | refine gN rfl ?_ | refine gN (by omega) ?_ | refine gJ rfl ?_ | refine gK (by omega) ?_ | refine gL (by omega) ?_ | refine gK rfl ?_ | refine gO ?_); conv => whnf))
        refine ⟨⟨rowsSz_cons rfl rowsSz_nil, rfl⟩, fitsN (n := (lineRows ((d.drop.take j).map fun c => rowM t (ixG c.text (textsOf (colK t k))))).length + 1) (b := 24) (by omega) (by omega), .inl ⟨rfl, rfl, ?_⟩⟩
        conv => whnf
        repeat (first | refine gA ?_ | refine gB ?_ | refine gC rfl ?_ | refine gD rfl ?_ | ((first | refine gE env hN (by kernel_rfl) ?_ | refine gF ?_ | refine gG ?_ | refine gH fun hlen => ?_ | refine gI (by kernel_rfl) ?_ | refine gN rfl ?_ | refine gN (by omega) ?_ | refine gJ rfl ?_ | refine gK (by omega) ?_ | refine gL (by omega) ?_ | refine gK rfl ?_ | refine gO ?_); conv => whnf))
        refine ⟨_, _, ?_, ⟨j + 1, by omega, rfl, rfl⟩, [(3, 3), (5, 5), (6, 6), (50, 50), (10, 10), (91, 91), (92, 92)], [], [], LeG.mk' rfl rfl rfl (by repeat' (first | exact trivial | exact ⟨_, .refl _, rfl⟩ | apply And.intro)) (.cons 3 rfl rfl (.refl _) rfl (.cons 5 rfl rfl (.refl _) rfl (.cons 6 rfl rfl (.refl _) rfl (.cons 50 rfl rfl (.refl _) rfl (.cons 10 rfl rfl (.refl _) ?_ (.cons 91 rfl rfl (.refl _) rfl (.cons 92 rfl rfl (.refl _) ?_ .nil))))))) rfl rfl (by rw [hK]; rfl)⟩
        · omega
        · rw [hsn, lineRows_snoc, List.length_append]; rfl
        · rw [hsn, lineRows_snoc]; rfl
      · have hje : j = d.drop.length := by omega
        rw [hje, List.take_length]
        have hq3 : (d.drop.map fun c => rowM t (ixG c.text (textsOf (colK t k)))).length ≤ 12 := by simpa using hdd
        have hq4 : (turnD t k d).add = sortK (keyAt k) (d.drop.map fun c => rowM t (ixG c.text (textsOf (colK t k)))) := rfl
        have hq5 : ∀ r ∈ d.drop.map (fun c => rowM t (ixG c.text (textsOf (colK t k)))), k < r.length := fun r hr => by
          obtain ⟨c, _, rfl⟩ := List.mem_map.1 hr
          rw [rowM_len]; exact hk
        generalize (d.drop.map fun c => rowM t (ixG c.text (textsOf (colK t k)))) = AR at *
        have sp10 := sorted_spec DR AR k hq1 hq3 hq5
        have l1 : (cellRows DR).length = (cellRows (turnD t k d).drop).length := by rw [hq2]; simp [cellRows, sortK_len]
        have l2 : (lineRows AR).length = (lineRows (turnD t k d).add).length := by rw [hq4]; simp [lineRows, sortK_len]
        repeat (first | refine gA ?_ | refine gB ?_ | refine gC rfl ?_ | refine gD rfl ?_ | ((first | refine gE env hN (by kernel_rfl) ?_ | refine gF ?_ | refine gG ?_ | refine gH fun hlen => ?_ | refine gI (by kernel_rfl) ?_ | refine gN rfl ?_ | refine gN (by omega) ?_ | refine gJ rfl ?_ | refine gK (by omega) ?_ | refine gL (by omega) ?_ | refine gK rfl ?_ | refine gO ?_); conv => whnf))
        (refine ⟨_, _, _, callG [(0, 91), (1, 92)] [] [] rfl rfl rfl (by kernel_rfl) (sp10) (by repeat' (first | exact trivial | exact Lent.refl _ | exact Lent.norm _ | apply And.intro)) rfl ⟨rfl, rfl, rfl, rfl, rfl, by repeat' (first | exact trivial | rfl | apply And.intro), rfl, rfl⟩, ?_⟩; conv => whnf)
        repeat (first | refine gA ?_ | refine gB ?_ | refine gC rfl ?_ | refine gD rfl ?_ | ((first | refine gE env hN (by kernel_rfl) ?_ | refine gF ?_ | refine gG ?_ | refine gH fun hlen => ?_ | refine gI (by kernel_rfl) ?_ | refine gN rfl ?_ | refine gN (by omega) ?_ | refine gJ rfl ?_ | refine gK (by omega) ?_ | refine gL (by omega) ?_ | refine gK rfl ?_ | refine gO ?_); conv => whnf))
        rw [← hq2, ← hq4]
        refine W.leG (mp := [(6, 6)]) (bo := [91, 92]) (st' := ⟨[(6, .bp 6 0), (7, .int .i64 0)], [(6, [.rows 2 [(turnD t k d).row] none])], [6]⟩)
          (LeG.mk' rfl rfl rfl (by repeat' (first | exact trivial | exact ⟨_, .refl _, rfl⟩ | apply And.intro)) (.cons 6 (b1 := .rows 2 [(turnD t k d).row] none) rfl rfl (.rows _ _ _ ⟨⟨⟨Lent.whole rfl rfl l1 rfl (by first | exact .inl rfl | exact .inr rfl), rfl⟩, ⟨Lent.whole rfl rfl l2 rfl (by first | exact .inl rfl | exact .inr rfl), rfl⟩, trivial⟩, trivial⟩) rfl .nil) rfl rfl (by rw [hK]; rfl)) ?_
        (refine gM ?_; conv => whnf)
        exact retH rfl (.refl _) rfl rfl rfl trivial
  · have hof : turnM t key d = (Delta.zero, mayM t key d) := by unfold turnM; rw [if_neg hm]
    rw [hof]
    repeat (first | refine gA ?_ | refine gB ?_ | refine gC rfl ?_ | refine gD rfl ?_ | ((first | refine gE env hN (by kernel_rfl) ?_ | refine gF ?_ | refine gG ?_ | refine gH fun hlen => ?_ | refine gI (by kernel_rfl) ?_ | refine gN rfl ?_ | refine gN (by omega) ?_ | refine gJ rfl ?_ | refine gK (by omega) ?_ | refine gL (by omega) ?_ | refine gK rfl ?_ | refine gO ?_); conv => whnf))
    (refine ⟨_, _, _, callG [] [] [] rfl rfl rfl (by kernel_rfl) (spM) (by repeat' (first | exact trivial | exact Lent.refl _ | exact Lent.norm _ | apply And.intro)) rfl ⟨rfl, rfl, rfl, rfl, rfl, trivial, rfl, rfl⟩, ?_⟩; conv => whnf)
    repeat (first | refine gA ?_ | refine gB ?_ | refine gC rfl ?_ | refine gD rfl ?_ | ((first | refine gE env hN (by kernel_rfl) ?_ | refine gF ?_ | refine gG ?_ | refine gH fun hlen => ?_ | refine gI (by kernel_rfl) ?_ | refine gN rfl ?_ | refine gN (by omega) ?_ | refine gJ rfl ?_ | refine gK (by omega) ?_ | refine gL (by omega) ?_ | refine gK rfl ?_ | refine gO ?_); conv => whnf))
    (refine gM ?_; conv => whnf)
    exact retH rfl (.norm _) rfl rfl rfl trivial
end Go.Sx.Sp
namespace Go.Sx.Sp
open Go Go.Sx Go.Proofs
attribute [local irreducible] GoodW
theorem less_cmp : ∀ a b : Str, Op.bytesLess a b = true ↔ Lib.compareBytes a b < 0
  | [], [] => by simp [Op.bytesLess, Lib.compareBytes]
  | _ :: _, [] => by simp [Op.bytesLess, Lib.compareBytes]
  | [], _ :: _ => by simp [Op.bytesLess, Lib.compareBytes]
  | x :: a, y :: b => by
    have ih := less_cmp a b
    unfold Op.bytesLess Lib.compareBytes
    by_cases h1 : x < y
    · simp [h1]
    · by_cases h2 : y < x
      · have hne : ¬ x = y := fun e => by subst e; exact h1 h2
        simp [h1, h2, hne]
      · have : x = y := by
          rw [UInt8.lt_iff_toNat_lt] at h1 h2
          exact UInt8.toNat_inj.1 (by omega)
        subst this
        simpa [h1] using ih
theorem cells_eq {N : Nat} {o : Oper} {h : Nat → List Blk} {ρ : Operand → V} {t' : Nat} {x y : Operand} (hop : o.op = .binOp .eql 45 x y t') (c d : Cell) (hx : ρ x = .agg c.row) (hy : ρ y = .agg d.row) (hd : dstOK N o.dst = true) : GoodW Tryd.prog N o ρ h (.bool (decide (c = d))) [] [] := by
  have h1 := aggBS_good (P := Tryd.prog) (N := N) (h := h) (ρ := ρ) (op := .eql) hop (.inl rfl) Tryd.underlying45 (by kernel_rfl) (by kernel_rfl) (by kernel_rfl) (by kernel_rfl) rfl rfl Tryd.underlying4 Tryd.underlying9 (a := c.text) (b := d.text) (n := c.null) (m := d.null) hx hy
  have e : decide (c = d) = decide (c.null = d.null ∧ c.text = d.text) := by
    cases c; cases d; simp
  rw [e]
  exact h1.toW hd
section
variable {A B : List Pair}
theorem PairOK.dist (h : PairOK A) : DistK Prod.fst A := by
  unfold DistK
  exact List.Pairwise.of_map (S := fun a b => a ≠ b) Prod.fst (fun a b hab => hab) h.nd
theorem sort_twice {l : List Pair} (h : PairOK l) : sortP (sortP l) = sortP l :=
  sortK_one h.sortP.dist h.dist fun x => mem_sortP
theorem lead_turn {i : Int} (h : PairOK A) (g : PairOK B) (hi : 0 ≤ i ∧ i ≤ 1073741824) : turnM (pairT i A) 1 (leadD A B) = (leadD B A, 0) := by
  have hd : turnD (pairT i A) 1 (leadD A B) = leadD B A := by
    have e1 : (leadD A B).add.map (fun r => cellI r 1) = (sortP (outP B A)).map keyC := by
      unfold leadD dlt
      rw [List.map_map]
      rfl
    have e2 : (leadD A B).drop.map (fun c => rowM (pairT i A) (ixG c.text (textsOf (colK (pairT i A) 1)))) = (sortP (outP A B)).map rowOf := by
      unfold leadD dlt
      rw [List.map_map, List.map_map, pair_texts]
      refine List.map_congr_left fun p hp => ?_
      have hpA := (mem_outP.1 (mem_sortP.1 hp)).1
      show rowM (pairT i A) (ixG p.1 (A.map Prod.fst)) = rowOf p
      cases hx : ixS p.1 (A.map Prod.fst) with
      | none => exact absurd (List.mem_map_of_mem hpA) (ixS_none.1 hx)
      | some n =>
        have h1 := ixS_some hx
        obtain ⟨hn, h2⟩ := List.getElem?_eq_some_iff.1 h1
        have hn' : n < A.length := by simpa using hn
        rw [List.getElem_map] at h2
        have hp2 : A[n] = p := h.uniq (List.getElem_mem hn') hpA h2
        rw [show ixG p.1 (A.map Prod.fst) = n by simp [ixG, hx], pair_row i hn', hp2]
    unfold turnD
    rw [e1, e2, sortK_map, sortK_map]
    have s1 : sortK (fun x => Cell.text (keyC x)) (sortP (outP B A)) = sortP (outP B A) := sort_twice (g.outP A)
    have s2 : sortK (fun x => keyAt 1 (rowOf x)) (sortP (outP A B)) = sortP (outP A B) := sort_twice (h.outP B)
    rw [s1, s2]
    unfold leadD dlt
    rw [List.map_map]
    rfl
  have hm : mayM (pairT i A) 1 (leadD A B) = 0 := fits_may h hi (fits_lead h g)
  unfold turnM
  rw [if_pos hm, show (1 : Int).toNat = 1 from rfl, hd]
theorem lead_add_get {k : Nat} {r : List Cell} (hk : (leadD A B).add[k]? = some r) : ∃ p ∈ B, p ∉ A ∧ r = rowOf p := by
  unfold leadD dlt at hk
  rw [List.getElem?_map, Option.map_eq_some_iff] at hk
  obtain ⟨p, hp, rfl⟩ := hk
  have := mem_outP.1 (mem_sortP.1 (List.mem_of_getElem? hp))
  exact ⟨p, this.1, this.2, rfl⟩
theorem lead_asc (h : PairOK A) {k : Nat} {x y : Cell} (hx : (leadD A B).drop[k]? = some x) (hy : (leadD A B).drop[k + 1]? = some y) : Op.bytesLess x.text y.text = true := by
  unfold leadD dlt at hx hy
  simp only [List.map_map] at hx hy
  rw [List.getElem?_map, Option.map_eq_some_iff] at hx hy
  obtain ⟨p, hp, rfl⟩ := hx
  obtain ⟨q, hq, rfl⟩ := hy
  obtain ⟨i1, e1⟩ := List.getElem?_eq_some_iff.1 hp
  obtain ⟨i2, e2⟩ := List.getElem?_eq_some_iff.1 hq
  have ha := sortK_asc ((h.outP B).dist)
  have := List.pairwise_iff_getElem.1 ha k (k + 1) i1 i2 (by omega)
  have e1 : (sortK Prod.fst (outP A B))[k] = p := e1
  have e2 : (sortK Prod.fst (outP A B))[k + 1] = q := e2
  rw [e1, e2] at this
  exact (less_cmp _ _).2 this
end
end Go.Sx.Sp
namespace Go.Sx.Sp
open Go Go.Sx Go.Proofs
attribute [local irreducible] GoodW
set_option maxHeartbeats 16000000 in
theorem leads_law (l : List Int) : Spec Tryd.prog 6 [.sl (intRows .i64 l) false] [] (.bool true) [] := by
  have hl := intRows_len .i64 l
  have spL := light_spec l
  have spA := awake37_spec
  refine Spec.body env Tryd.func6 rfl (by kernel_rfl) (Nat.le_of_ble_eq_true (by kernel_rfl)) (keysSub rfl) fun Γ hN hK => ?_; have hML : maxLen = 9223372036854775807 := by unfold maxLen; rfl
  by_cases hll : l.length ≤ 500
  · rw [decide_eq_true hll] at spL
    obtain ⟨okA, hpA, lA, spKA⟩ := pairsF_ok (l := l) (p := 0) (by omega)
    have sp1 := spKA 1
    obtain ⟨okB, hpB, lB, spKB⟩ := pairsF_ok (l := l) (p := (keyR l 0).2) hpA
    have sp2 := spKB 2
    generalize pairsF l (keyR l 0).2 = B at *
    generalize pairsF l 0 = A at *
    clear spKA spKB
    have o1 := of_spec (pairT 1 A) (pairT 2 B) 1 (by rw [pair_rows]; omega) (by rw [pair_rows]; omega)
    rw [pair_of okA okB (by omega) (by omega)] at o1
    have a1 := apply_spec (pairT 1 A) 1 (leadD A B) (by have := lead_drop A B; omega) (by have := lead_add okA okB; omega)
    rw [lead_apply okA okB (by omega)] at a1
    have t1 := turn_spec (pairT 1 A) 1 (leadD A B) (by have := lead_drop A B; omega) (by have := lead_add okA okB; omega)
    rw [lead_turn okA okB (by omega)] at t1
    have a2 := apply_spec (pairT 1 (leadP A B)) 1 (leadD B A) (by have := lead_drop B A; omega) (by have := lead_add okB okA; omega)
    rw [chain_apply okA okB okA (by omega)] at a2
    have o2 := of_spec (pairT 1 A) (pairT 1 A) 1 (by rw [pair_rows]; omega) (by rw [pair_rows]; omega)
    rw [pair_of okA okA (by omega) (by omega), lead_none (fun p => Iff.rfl)] at o2
    have s1 := sameRows_spec (i := 1) (j := 2) (leadP_ok okA okB) okB (by omega) (by omega) (mem_leadP okA okB)
    have s2 := sameRows_spec (i := 1) (j := 1) (chain_ok okA okB okA) okA (by omega) (by omega) (mem_chain okA okB okA)
    have r3 := rows3_spec (pairT 1 A)
    rw [pair_rows] at r3
    have hadd := @lead_add_get A B
    have hasc := @lead_asc A B okA
    have hx := lead_drop A B
    have hxa := lead_add okA okB
    generalize leadD A B = X at *
    generalize leadD B A = Y at *
    generalize pairT 1 (leadP A B) = P at *
    generalize pairT 1 (chainP A B A) = R at *
    generalize pairT 2 B = TB at *
    have hcx := cellRows_len X.drop
    have hax := lineRows_len X.add
    repeat (first | refine gA ?_ | refine gB ?_ | refine gC rfl ?_ | refine gD rfl ?_ | ((first | refine gE env hN (by kernel_rfl) ?_ | refine gF ?_ | refine gG ?_ | refine gH fun hlen => ?_ | refine gI (by kernel_rfl) ?_ | refine gN rfl ?_ | refine gN (by omega) ?_ | refine gJ rfl ?_ | refine gK (by omega) ?_ | refine gL (by omega) ?_ | refine gK rfl ?_ | refine gO ?_); conv => whnf))
    (refine ⟨_, _, _, callG [] [] [] rfl rfl rfl (by kernel_rfl) (spL) (by repeat' (first | exact trivial | exact Lent.refl _ | exact Lent.norm _ | apply And.intro)) rfl ⟨rfl, rfl, rfl, rfl, rfl, trivial, rfl, rfl⟩, ?_⟩; conv => whnf)
    repeat (first | refine gA ?_ | refine gB ?_ | refine gC rfl ?_ | refine gD rfl ?_ | ((first | refine gE env hN (by kernel_rfl) ?_ | refine gF ?_ | refine gG ?_ | refine gH fun hlen => ?_ | refine gI (by kernel_rfl) ?_ | refine gN rfl ?_ | refine gN (by omega) ?_ | refine gJ rfl ?_ | refine gK (by omega) ?_ | refine gL (by omega) ?_ | refine gK rfl ?_ | refine gO ?_); conv => whnf))
    (refine ⟨_, _, _, callG [] [(5, 70)] [] rfl rfl rfl (by kernel_rfl) (roll_spec l) (by repeat' (first | exact trivial | exact Lent.refl _ | exact Lent.norm _ | apply And.intro)) rfl ⟨rfl, rfl, rfl, rfl, rfl, by repeat' (first | exact trivial | rfl | apply And.intro), rfl, rfl⟩, ?_⟩; conv => whnf)
    repeat (first | refine gA ?_ | refine gB ?_ | refine gC rfl ?_ | refine gD rfl ?_ | ((first | refine gE env hN (by kernel_rfl) ?_ | refine gF ?_ | refine gG ?_ | refine gH fun hlen => ?_ | refine gI (by kernel_rfl) ?_ | refine gN rfl ?_ | refine gN (by omega) ?_ | refine gJ rfl ?_ | refine gK (by omega) ?_ | refine gL (by omega) ?_ | refine gK rfl ?_ | refine gO ?_); conv => whnf))
    (refine ⟨_, _, _, callG [(0, 70)] [] [] rfl rfl rfl (by kernel_rfl) (sp1) (by repeat' (first | exact trivial | exact Lent.refl _ | exact Lent.norm _ | exact Lent.whole rfl rfl (by first | rfl | exact List.length_append.symm | exact hlenR | simp) rfl (by first | exact .inl rfl | exact .inr rfl) | apply And.intro)) rfl ⟨rfl, rfl, rfl, rfl, rfl, by repeat' (first | exact trivial | rfl | apply And.intro), rfl, rfl⟩, ?_⟩; conv => whnf)
    repeat (first | refine gA ?_ | refine gB ?_ | refine gC rfl ?_ | refine gD rfl ?_ | ((first | refine gE env hN (by kernel_rfl) ?_ | refine gF ?_ | refine gG ?_ | refine gH fun hlen => ?_ | refine gI (by kernel_rfl) ?_ | refine gN rfl ?_ | refine gN (by omega) ?_ | refine gJ rfl ?_ | refine gK (by omega) ?_ | refine gL (by omega) ?_ | refine gK rfl ?_ | refine gO ?_); conv => whnf))
    (refine ⟨_, _, _, callG [(0, 70)] [] [] rfl rfl rfl (by kernel_rfl) (sp2) (by repeat' (first | exact trivial | exact Lent.refl _ | exact Lent.norm _ | exact Lent.whole rfl rfl (by first | rfl | exact List.length_append.symm | exact hlenR | simp) rfl (by first | exact .inl rfl | exact .inr rfl) | apply And.intro)) rfl ⟨rfl, rfl, rfl, rfl, rfl, by repeat' (first | exact trivial | rfl | apply And.intro), rfl, rfl⟩, ?_⟩; conv => whnf)
    repeat ((first | refine gI (by kernel_rfl) ?_ | refine gH fun hlen => ?_ | refine gN rfl ?_ | refine gN (by omega) ?_ | refine gJ rfl ?_ | refine gK (by omega) ?_ | refine gL (by omega) ?_ | refine gK rfl ?_ | refine gO ?_); conv => whnf)
    refine gA ?_
    refine W.leG (mp := [(4, 4), (5, 5)]) (bo := []) (st' := ⟨[(4, .bp 4 0), (5, .bp 5 0)], [(4, [.rows 3 [(pairT 1 A).row] none]), (5, [.rows 3 [TB.row] none])], [4, 5]⟩)
      (LeG.mk' rfl rfl rfl (by repeat' (first | exact trivial | exact ⟨_, .refl _, rfl⟩ | apply And.intro)) (.cons 4 rfl rfl (.refl _) rfl (.cons 5 rfl rfl (.refl _) rfl .nil)) rfl rfl (by rw [hK]; rfl)) ?_
    repeat (first | refine gA ?_ | refine gB ?_ | refine gC rfl ?_ | refine gD rfl ?_ | ((first | refine gE env hN (by kernel_rfl) ?_ | refine gF ?_ | refine gG ?_ | refine gH fun hlen => ?_ | refine gI (by kernel_rfl) ?_ | refine gN rfl ?_ | refine gN (by omega) ?_ | refine gJ rfl ?_ | refine gK (by omega) ?_ | refine gL (by omega) ?_ | refine gK rfl ?_ | refine gO ?_); conv => whnf))
    (refine ⟨_, _, _, callG [] [] [] rfl rfl rfl (by kernel_rfl) (o1) (by repeat' (first | exact trivial | exact Lent.refl _ | exact Lent.norm _ | apply And.intro)) rfl ⟨rfl, rfl, rfl, rfl, rfl, trivial, rfl, rfl⟩, ?_⟩; conv => whnf)
    repeat (first | refine gA ?_ | refine gB ?_ | refine gC rfl ?_ | refine gD rfl ?_ | ((first | refine gE env hN (by kernel_rfl) ?_ | refine gF ?_ | refine gG ?_ | refine gH fun hlen => ?_ | refine gI (by kernel_rfl) ?_ | refine gN rfl ?_ | refine gN (by omega) ?_ | refine gJ rfl ?_ | refine gK (by omega) ?_ | refine gL (by omega) ?_ | refine gK rfl ?_ | refine gO ?_); conv => whnf))
    (refine ⟨_, _, _, callG [] [] [] rfl rfl rfl (by kernel_rfl) (a1) (by repeat' (first | exact trivial | exact Lent.refl _ | exact Lent.norm _ | apply And.intro)) rfl ⟨rfl, rfl, rfl, rfl, rfl, trivial, rfl, rfl⟩, ?_⟩; conv => whnf)
    repeat (first | refine gA ?_ | refine gB ?_ | refine gC rfl ?_ | refine gD rfl ?_ | ((first | refine gE env hN (by kernel_rfl) ?_ | refine gF ?_ | refine gG ?_ | refine gH fun hlen => ?_ | refine gI (by kernel_rfl) ?_ | refine gN rfl ?_ | refine gN (by omega) ?_ | refine gJ rfl ?_ | refine gK (by omega) ?_ | refine gL (by omega) ?_ | refine gK rfl ?_ | refine gO ?_); conv => whnf))
    (refine ⟨_, _, _, callG [] [] [] rfl rfl rfl (by kernel_rfl) (t1) (by repeat' (first | exact trivial | exact Lent.refl _ | exact Lent.norm _ | apply And.intro)) rfl ⟨rfl, rfl, rfl, rfl, rfl, trivial, rfl, rfl⟩, ?_⟩; conv => whnf)
    repeat ((first | refine gI (by kernel_rfl) ?_ | refine gH fun hlen => ?_ | refine gN rfl ?_ | refine gN (by omega) ?_ | refine gJ rfl ?_ | refine gK (by omega) ?_ | refine gL (by omega) ?_ | refine gK rfl ?_ | refine gO ?_); conv => whnf)
    refine gA ?_
    refine W.leG (mp := [(4, 4), (5, 5), (6, 6), (8, 8), (10, 10)]) (bo := []) (st' := ⟨[(4, .bp 4 0), (5, .bp 5 0), (6, .bp 6 0), (7, .int .i64 0), (8, .bp 8 0), (9, .int .i64 0), (10, .bp 10 0), (11, .int .i64 0)], [(4, [.rows 3 [(pairT 1 A).row] none]), (5, [.rows 3 [TB.row] none]), (6, [.rows 2 [X.row] none]), (8, [.rows 3 [P.row] none]), (10, [.rows 2 [Y.row] none])], [4, 5, 6, 8, 10]⟩)
      (LeG.mk' rfl rfl rfl (by repeat' (first | exact trivial | exact ⟨_, .refl _, rfl⟩ | apply And.intro)) (.cons 4 rfl rfl (.refl _) rfl (.cons 5 rfl rfl (.refl _) rfl (.cons 6 rfl rfl (.refl _) rfl (.cons 8 rfl rfl (.refl _) rfl (.cons 10 rfl rfl (.refl _) rfl .nil))))) rfl rfl (by rw [hK]; rfl)) ?_
    repeat (first | refine gA ?_ | refine gB ?_ | refine gC rfl ?_ | refine gD rfl ?_ | ((first | refine gE env hN (by kernel_rfl) ?_ | refine gF ?_ | refine gG ?_ | refine gH fun hlen => ?_ | refine gI (by kernel_rfl) ?_ | refine gN rfl ?_ | refine gN (by omega) ?_ | refine gJ rfl ?_ | refine gK (by omega) ?_ | refine gL (by omega) ?_ | refine gK rfl ?_ | refine gO ?_); conv => whnf))
    (refine ⟨_, _, _, callG [] [] [] rfl rfl rfl (by kernel_rfl) (a2) (by repeat' (first | exact trivial | exact Lent.refl _ | exact Lent.norm _ | apply And.intro)) rfl ⟨rfl, rfl, rfl, rfl, rfl, trivial, rfl, rfl⟩, ?_⟩; conv => whnf)
    repeat (first | refine gA ?_ | refine gB ?_ | refine gC rfl ?_ | refine gD rfl ?_ | ((first | refine gE env hN (by kernel_rfl) ?_ | refine gF ?_ | refine gG ?_ | refine gH fun hlen => ?_ | refine gI (by kernel_rfl) ?_ | refine gN rfl ?_ | refine gN (by omega) ?_ | refine gJ rfl ?_ | refine gK (by omega) ?_ | refine gL (by omega) ?_ | refine gK rfl ?_ | refine gO ?_); conv => whnf))
    (refine ⟨_, _, _, callG [] [] [] rfl rfl rfl (by kernel_rfl) (o2) (by repeat' (first | exact trivial | exact Lent.refl _ | exact Lent.norm _ | apply And.intro)) rfl ⟨rfl, rfl, rfl, rfl, rfl, trivial, rfl, rfl⟩, ?_⟩; conv => whnf)
    repeat ((first | refine gI (by kernel_rfl) ?_ | refine gH fun hlen => ?_ | refine gN rfl ?_ | refine gN (by omega) ?_ | refine gJ rfl ?_ | refine gK (by omega) ?_ | refine gL (by omega) ?_ | refine gK rfl ?_ | refine gO ?_); conv => whnf)
    refine gA ?_
    refine W.leG (mp := [(4, 4), (5, 5), (6, 6), (8, 8), (12, 12), (14, 14)]) (bo := []) (st' := ⟨[(4, .bp 4 0), (5, .bp 5 0), (6, .bp 6 0), (7, .int .i64 0), (8, .bp 8 0), (9, .int .i64 0), (11, .int .i64 0), (12, .bp 12 0), (13, .int .i64 0), (14, .bp 14 0), (15, .int .i64 0)], [(4, [.rows 3 [(pairT 1 A).row] none]), (5, [.rows 3 [TB.row] none]), (6, [.rows 2 [X.row] none]), (8, [.rows 3 [P.row] none]), (12, [.rows 3 [R.row] none]), (14, [.rows 2 [Delta.row ⟨[], []⟩] none])], [4, 5, 6, 8, 12, 14]⟩)
      (LeG.mk' rfl rfl rfl (by repeat' (first | exact trivial | exact ⟨_, .refl _, rfl⟩ | apply And.intro)) (.cons 4 rfl rfl (.refl _) rfl (.cons 5 rfl rfl (.refl _) rfl (.cons 6 rfl rfl (.refl _) rfl (.cons 8 rfl rfl (.refl _) rfl (.cons 12 rfl rfl (.refl _) rfl (.cons 14 rfl rfl (.refl _) rfl .nil)))))) rfl rfl (by rw [hK]; rfl)) ?_
    repeat (first | refine gA ?_ | refine gB ?_ | refine gC rfl ?_ | refine gD rfl ?_ | ((first | refine gE env hN (by kernel_rfl) ?_ | refine gF ?_ | refine gG ?_ | refine gH fun hlen => ?_ | refine gI (by kernel_rfl) ?_ | refine gN rfl ?_ | refine gN (by omega) ?_ | refine gJ rfl ?_ | refine gK (by omega) ?_ | refine gL (by omega) ?_ | refine gK rfl ?_ | refine gO ?_); conv => whnf))
    refine And.intro ⟨by decide, by decide⟩ ?_
    conv => whnf
    refine gL (fun h => h rfl) ?_
    conv => whnf
    repeat (first | refine gA ?_ | refine gB ?_ | refine gC rfl ?_ | refine gD rfl ?_ | ((first | refine gE env hN (by kernel_rfl) ?_ | refine gF ?_ | refine gG ?_ | refine gH fun hlen => ?_ | refine gI (by kernel_rfl) ?_ | refine gN rfl ?_ | refine gN (by omega) ?_ | refine gJ rfl ?_ | refine gK (by omega) ?_ | refine gL (by omega) ?_ | refine gK rfl ?_ | refine gO ?_); conv => whnf))
    (refine ⟨_, _, _, callG [] [] [] rfl rfl rfl (by kernel_rfl) (s1) (by repeat' (first | exact trivial | exact Lent.refl _ | exact Lent.norm _ | apply And.intro)) rfl ⟨rfl, rfl, rfl, rfl, rfl, trivial, rfl, rfl⟩, ?_⟩; conv => whnf)
    repeat (first | refine gA ?_ | refine gB ?_ | refine gC rfl ?_ | refine gD rfl ?_ | ((first | refine gE env hN (by kernel_rfl) ?_ | refine gF ?_ | refine gG ?_ | refine gH fun hlen => ?_ | refine gI (by kernel_rfl) ?_ | refine gN rfl ?_ | refine gN (by omega) ?_ | refine gJ rfl ?_ | refine gK (by omega) ?_ | refine gL (by omega) ?_ | refine gK rfl ?_ | refine gO ?_); conv => whnf))
    (refine ⟨_, _, _, callG [] [] [] rfl rfl rfl (by kernel_rfl) (s2) (by repeat' (first | exact trivial | exact Lent.refl _ | exact Lent.norm _ | apply And.intro)) rfl ⟨rfl, rfl, rfl, rfl, rfl, trivial, rfl, rfl⟩, ?_⟩; conv => whnf)
    repeat (first | refine gA ?_ | refine gB ?_ | refine gC rfl ?_ | refine gD rfl ?_ | ((first | refine gE env hN (by kernel_rfl) ?_ | refine gF ?_ | refine gG ?_ | refine gH fun hlen => ?_ | refine gI (by kernel_rfl) ?_ | refine gN rfl ?_ | refine gN (by omega) ?_ | refine gJ rfl ?_ | refine gK (by omega) ?_ | refine gL (by omega) ?_ | refine gK rfl ?_ | refine gO ?_); conv => whnf))
    refine W.loopG (fun m st => ∃ k : Nat, k ≤ X.add.length ∧ m = X.add.length - k ∧ st = ⟨[(4, .bp 4 0), (6, .bp 6 0), (101, .sl (lineRows X.add) false), (102, .int .i64 (lineRows X.add).length), (103, .int .i64 k)], [(4, [.rows 3 [(pairT 1 A).row] none]), (6, [.rows 2 [X.row] none])], [4, 6]⟩)
      X.add.length _ ⟨0, by omega, by omega, rfl⟩ ⟨[(4, 4), (6, 6)], [], [], LeG.mk' rfl rfl rfl (by repeat' (first | exact trivial | exact ⟨_, .refl _, rfl⟩ | apply And.intro)) (.cons 4 rfl rfl (.refl _) rfl (.cons 6 rfl rfl (.refl _) rfl .nil)) rfl rfl (by rw [hK]; rfl)⟩ ?_
    rintro m st ⟨k, hk, rfl, rfl⟩
    repeat (first | refine gA ?_ | refine gB ?_ | refine gC rfl ?_ | refine gD rfl ?_ | ((first | refine gE env hN (by kernel_rfl) ?_ | refine gF ?_ | refine gG ?_ | refine gH fun hlen => ?_ | refine gI (by kernel_rfl) ?_ | refine gN rfl ?_ | refine gN (by omega) ?_ | refine gJ rfl ?_ | refine gK (by omega) ?_ | refine gL (by omega) ?_ | refine gK rfl ?_ | refine gO ?_); conv => whnf))
    refine boolRes_split (fun hb => ?_) (fun hb => ?_) <;> conv => whnf
    · have hlt : k < X.add.length := by omega
      obtain ⟨p, hpB, hpA2, hpe⟩ := hadd (List.getElem?_eq_getElem hlt)
      have hgl : (lineRows X.add)[k]? = some (lineV (rowOf p)) := by simp [lineRows, hlt, hpe]
      repeat (first | refine gA ?_ | refine gB ?_ | refine gC rfl ?_ | refine gD rfl ?_ | ((first | refine gE env hN (by kernel_rfl) ?_ | refine gF ?_ | refine gG ?_ | refine gH fun hlen => ?_ | refine gI (by kernel_rfl) ?_ | refine gN rfl ?_ | refine gN (by omega) ?_ | refine gJ rfl ?_ | refine gK (by omega) ?_ | refine gL (by omega) ?_ | refine gK rfl ?_ | refine gO ?_); conv => whnf))
      refine rowAt_of (by simpa using hgl) ?_
      conv => whnf
      repeat (first | refine gA ?_ | refine gB ?_ | refine gC rfl ?_ | refine gD rfl ?_ | ((first | refine gE env hN (by kernel_rfl) ?_ | refine gF ?_ | refine gG ?_ | refine gH fun hlen => ?_ | refine gI (by kernel_rfl) ?_ | refine gN rfl ?_ | refine gN (by omega) ?_ | refine gJ rfl ?_ | refine gK (by omega) ?_ | refine gL (by omega) ?_ | refine gK rfl ?_ | refine gO ?_); conv => whnf))
      (refine ⟨_, _, _, callG [] [] [] rfl rfl rfl (by kernel_rfl) (r3) (by repeat' (first | exact trivial | exact Lent.refl _ | exact Lent.norm _ | apply And.intro)) rfl ⟨rfl, rfl, rfl, rfl, rfl, trivial, rfl, rfl⟩, ?_⟩; conv => whnf)
      repeat (first | refine gA ?_ | refine gB ?_ | refine gC rfl ?_ | refine gD rfl ?_ | ((first | refine gE env hN (by kernel_rfl) ?_ | refine gF ?_ | refine gG ?_ | refine gH fun hlen => ?_ | refine gI (by kernel_rfl) ?_ | refine gN rfl ?_ | refine gN (by omega) ?_ | refine gJ rfl ?_ | refine gK (by omega) ?_ | refine gL (by omega) ?_ | refine gK rfl ?_ | refine gO ?_); conv => whnf))
      refine W.loopG (fun m st => ∃ j : Nat, j ≤ A.length ∧ m = A.length - j ∧ st = ⟨[(4, .bp 4 0), (6, .bp 6 0), (101, .sl (lineRows X.add) false), (102, .int .i64 (lineRows X.add).length), (103, .int .i64 k), (17, .sl (cellRows (rowOf p)) false), (108, .int .i64 A.length), (109, .int .i64 j)], [(4, [.rows 3 [(pairT 1 A).row] none]), (6, [.rows 2 [X.row] none])], [4, 6]⟩)
        A.length _ ⟨0, by omega, by omega, rfl⟩ ⟨[(4, 4), (6, 6)], [], [], LeG.mk' rfl rfl rfl (by repeat' (first | exact trivial | exact ⟨_, .refl _, rfl⟩ | apply And.intro)) (.cons 4 rfl rfl (.refl _) rfl (.cons 6 rfl rfl (.refl _) rfl .nil)) rfl rfl (by rw [hK]; rfl)⟩ ?_
      rintro m st ⟨j, hj, rfl, rfl⟩
      repeat (first | refine gA ?_ | refine gB ?_ | refine gC rfl ?_ | refine gD rfl ?_ | ((first | refine gE env hN (by kernel_rfl) ?_ | refine gF ?_ | refine gG ?_ | refine gH fun hlen => ?_ | refine gI (by kernel_rfl) ?_ | refine gN rfl ?_ | refine gN (by omega) ?_ | refine gJ rfl ?_ | refine gK (by omega) ?_ | refine gL (by omega) ?_ | refine gK rfl ?_ | refine gO ?_); conv => whnf))
      refine boolRes_split (fun hb => ?_) (fun hb => ?_) <;> conv => whnf
      · have hja : j < A.length := by omega
        have hgv : (cellRows (A.map valC))[j]? = some (valC A[j]).row := by rw [cellRows_get (by simpa using hja)]; simp
        have hgk : (cellRows (A.map keyC))[j]? = some (keyC A[j]).row := by rw [cellRows_get (by simpa using hja)]; simp
        have hne : ¬ (valC A[j] = valC p ∧ keyC A[j] = keyC p) := fun ⟨e1, e2⟩ => by
          have e3 : rowOf A[j] = rowOf p := by unfold rowOf; rw [e1, e2]
          have e4 := rowOf_inj e3
          exact hpA2 (by rw [← e4]; exact List.getElem_mem hja)
        generalize A[j] = q at *
        repeat (first | refine gA ?_ | refine gB ?_ | refine gC rfl ?_ | refine gD rfl ?_ | ((first | refine gE env hN (by kernel_rfl) ?_ | refine gF ?_ | refine gG ?_ | refine gH fun hlen => ?_ | refine gI (by kernel_rfl) ?_ | refine gN rfl ?_ | refine gN (by omega) ?_ | refine gJ rfl ?_ | refine gK (by omega) ?_ | refine gL (by omega) ?_ | refine gK rfl ?_ | refine gO ?_); conv => whnf))
        refine rowAt_of (by simpa using hgv) ?_
        conv => whnf
        repeat (first | refine gA ?_ | refine gB ?_ | refine gC rfl ?_ | refine gD rfl ?_ | ((first | refine gE env hN (by kernel_rfl) ?_ | refine gF ?_ | refine gG ?_ | refine gH fun hlen => ?_ | refine gI (by kernel_rfl) ?_ | refine gN rfl ?_ | refine gN (by omega) ?_ | refine gJ rfl ?_ | refine gK (by omega) ?_ | refine gL (by omega) ?_ | refine gK rfl ?_ | refine gO ?_); conv => whnf))
        refine ⟨_, _, _, cells_eq rfl (valC q) (valC p) rfl rfl (by kernel_rfl), ?_⟩
        by_cases h1 : valC q = valC p
        · rw [decide_eq_true h1]
          have h2 : ¬ keyC q = keyC p := fun e => hne ⟨h1, e⟩
          conv => whnf
          repeat (first | refine gA ?_ | refine gB ?_ | refine gC rfl ?_ | refine gD rfl ?_ | ((first | refine gE env hN (by kernel_rfl) ?_ | refine gF ?_ | refine gG ?_ | refine gH fun hlen => ?_ | refine gI (by kernel_rfl) ?_ | refine gN rfl ?_ | refine gN (by omega) ?_ | refine gJ rfl ?_ | refine gK (by omega) ?_ | refine gL (by omega) ?_ | refine gK rfl ?_ | refine gO ?_); conv => whnf))
          refine rowAt_of (by simpa using hgk) ?_
          conv => whnf
          repeat (first | refine gA ?_ | refine gB ?_ | refine gC rfl ?_ | refine gD rfl ?_ | ((first | refine gE env hN (by kernel_rfl) ?_ | refine gF ?_ | refine gG ?_ | refine gH fun hlen => ?_ | refine gI (by kernel_rfl) ?_ | refine gN rfl ?_ | refine gN (by omega) ?_ | refine gJ rfl ?_ | refine gK (by omega) ?_ | refine gL (by omega) ?_ | refine gK rfl ?_ | refine gO ?_); conv => whnf))
          refine ⟨_, _, _, cells_eq rfl (keyC q) (keyC p) rfl rfl (by kernel_rfl), ?_⟩
          rw [decide_eq_false h2]
          conv => whnf
          repeat (first | refine gA ?_ | refine gB ?_ | refine gC rfl ?_ | refine gD rfl ?_ | ((first | refine gE env hN (by kernel_rfl) ?_ | refine gF ?_ | refine gG ?_ | refine gH fun hlen => ?_ | refine gI (by kernel_rfl) ?_ | refine gN rfl ?_ | refine gN (by omega) ?_ | refine gJ rfl ?_ | refine gK (by omega) ?_ | refine gL (by omega) ?_ | refine gK rfl ?_ | refine gO ?_); conv => whnf))
          refine ⟨_, _, ?_, ⟨j + 1, by omega, rfl, rfl⟩, ⟨[(4, 4), (6, 6)], [], [], LeG.mk' rfl rfl rfl (by repeat' (first | exact trivial | exact ⟨_, .refl _, rfl⟩ | apply And.intro)) (.cons 4 rfl rfl (.refl _) rfl (.cons 6 rfl rfl (.refl _) rfl .nil)) rfl rfl (by rw [hK]; rfl)⟩⟩
          omega
        · rw [decide_eq_false h1]
          conv => whnf
          repeat (first | refine gA ?_ | refine gB ?_ | refine gC rfl ?_ | refine gD rfl ?_ | ((first | refine gE env hN (by kernel_rfl) ?_ | refine gF ?_ | refine gG ?_ | refine gH fun hlen => ?_ | refine gI (by kernel_rfl) ?_ | refine gN rfl ?_ | refine gN (by omega) ?_ | refine gJ rfl ?_ | refine gK (by omega) ?_ | refine gL (by omega) ?_ | refine gK rfl ?_ | refine gO ?_); conv => whnf))
          refine ⟨_, _, ?_, ⟨j + 1, by omega, rfl, rfl⟩, ⟨[(4, 4), (6, 6)], [], [], LeG.mk' rfl rfl rfl (by repeat' (first | exact trivial | exact ⟨_, .refl _, rfl⟩ | apply And.intro)) (.cons 4 rfl rfl (.refl _) rfl (.cons 6 rfl rfl (.refl _) rfl .nil)) rfl rfl (by rw [hK]; rfl)⟩⟩
          omega
      · repeat (first | refine gA ?_ | refine gB ?_ | refine gC rfl ?_ | refine gD rfl ?_ | ((first | refine gE env hN (by kernel_rfl) ?_ | refine gF ?_ | refine gG ?_ | refine gH fun hlen => ?_ | refine gI (by kernel_rfl) ?_ | refine gN rfl ?_ | refine gN (by omega) ?_ | refine gJ rfl ?_ | refine gK (by omega) ?_ | refine gL (by omega) ?_ | refine gK rfl ?_ | refine gO ?_); conv => whnf))
        refine ⟨_, _, ?_, ⟨k + 1, by omega, rfl, rfl⟩, ⟨[(4, 4), (6, 6)], [], [], LeG.mk' rfl rfl rfl (by repeat' (first | exact trivial | exact ⟨_, .refl _, rfl⟩ | apply And.intro)) (.cons 4 rfl rfl (.refl _) rfl (.cons 6 rfl rfl (.refl _) rfl .nil)) rfl rfl (by rw [hK]; rfl)⟩⟩
        omega
    · repeat (first | refine gA ?_ | refine gB ?_ | refine gC rfl ?_ | refine gD rfl ?_ | ((first | refine gE env hN (by kernel_rfl) ?_ | refine gF ?_ | refine gG ?_ | refine gH fun hlen => ?_ | refine gI (by kernel_rfl) ?_ | refine gN rfl ?_ | refine gN (by omega) ?_ | refine gJ rfl ?_ | refine gK (by omega) ?_ | refine gL (by omega) ?_ | refine gK rfl ?_ | refine gO ?_); conv => whnf))
      refine W.loopG (fun m st => ∃ k : Nat, k ≤ X.drop.length ∧ m = X.drop.length - k ∧ st = ⟨[(4, .bp 4 0), (6, .bp 6 0), (19, .int .i64 (k + 1 : Nat))], [(4, [.rows 3 [(pairT 1 A).row] none]), (6, [.rows 2 [X.row] none])], [4, 6]⟩)
        X.drop.length _ ⟨0, by omega, by omega, rfl⟩ ⟨[(4, 4), (6, 6)], [], [], LeG.mk' rfl rfl rfl (by repeat' (first | exact trivial | exact ⟨_, .refl _, rfl⟩ | apply And.intro)) (.cons 4 rfl rfl (.refl _) rfl (.cons 6 rfl rfl (.refl _) rfl .nil)) rfl rfl (by rw [hK]; rfl)⟩ ?_
      rintro m st ⟨k, hk, rfl, rfl⟩
      repeat (first | refine gA ?_ | refine gB ?_ | refine gC rfl ?_ | refine gD rfl ?_ | ((first | refine gE env hN (by kernel_rfl) ?_ | refine gF ?_ | refine gG ?_ | refine gH fun hlen => ?_ | refine gI (by kernel_rfl) ?_ | refine gN rfl ?_ | refine gN (by omega) ?_ | refine gJ rfl ?_ | refine gK (by omega) ?_ | refine gL (by omega) ?_ | refine gK rfl ?_ | refine gO ?_); conv => whnf))
      refine boolRes_split (fun hb => ?_) (fun hb => ?_) <;> conv => whnf
      · have hlt : k + 1 < X.drop.length := by omega
        have hg1 := cellRows_get (show k < X.drop.length by omega)
        have hg2 := cellRows_get hlt
        have hgt := hasc (List.getElem?_eq_getElem (show k < X.drop.length by omega)) (List.getElem?_eq_getElem hlt)
        generalize X.drop[k] = x at *
        generalize X.drop[k + 1] = y at *
        repeat (first | refine gA ?_ | refine gB ?_ | refine gC rfl ?_ | refine gD rfl ?_ | ((first | refine gE env hN (by kernel_rfl) ?_ | refine gF ?_ | refine gG ?_ | refine gH fun hlen => ?_ | refine gI (by kernel_rfl) ?_ | refine gN rfl ?_ | refine gN (by omega) ?_ | refine gJ rfl ?_ | refine gK (by omega) ?_ | refine gL (by omega) ?_ | refine gK rfl ?_ | refine gO ?_); conv => whnf))
        refine rowAt_of (by simpa using hg1) ?_
        conv => whnf
        repeat (first | refine gA ?_ | refine gB ?_ | refine gC rfl ?_ | refine gD rfl ?_ | ((first | refine gE env hN (by kernel_rfl) ?_ | refine gF ?_ | refine gG ?_ | refine gH fun hlen => ?_ | refine gI (by kernel_rfl) ?_ | refine gN rfl ?_ | refine gN (by omega) ?_ | refine gJ rfl ?_ | refine gK (by omega) ?_ | refine gL (by omega) ?_ | refine gK rfl ?_ | refine gO ?_); conv => whnf))
        refine rowAt_of (by simpa using hg2) ?_
        conv => whnf
        repeat (first | refine gA ?_ | refine gB ?_ | refine gC rfl ?_ | refine gD rfl ?_ | ((first | refine gE env hN (by kernel_rfl) ?_ | refine gF ?_ | refine gG ?_ | refine gH fun hlen => ?_ | refine gI (by kernel_rfl) ?_ | refine gN rfl ?_ | refine gN (by omega) ?_ | refine gJ rfl ?_ | refine gK (by omega) ?_ | refine gL (by omega) ?_ | refine gK rfl ?_ | refine gO ?_); conv => whnf))
        refine gL (by rw [hgt]; simp) ?_
        conv => whnf
        repeat (first | refine gA ?_ | refine gB ?_ | refine gC rfl ?_ | refine gD rfl ?_ | ((first | refine gE env hN (by kernel_rfl) ?_ | refine gF ?_ | refine gG ?_ | refine gH fun hlen => ?_ | refine gI (by kernel_rfl) ?_ | refine gN rfl ?_ | refine gN (by omega) ?_ | refine gJ rfl ?_ | refine gK (by omega) ?_ | refine gL (by omega) ?_ | refine gK rfl ?_ | refine gO ?_); conv => whnf))
        refine ⟨_, _, ?_, ⟨k + 1, by omega, rfl, rfl⟩, ⟨[(4, 4), (6, 6)], [], [], LeG.mk' rfl rfl rfl (by repeat' (first | exact trivial | exact ⟨_, .refl _, rfl⟩ | apply And.intro)) (.cons 4 rfl rfl (.refl _) rfl (.cons 6 rfl rfl (.refl _) rfl .nil)) rfl rfl (by rw [hK]; rfl)⟩⟩
        omega
      · repeat (first | refine gA ?_ | refine gB ?_ | refine gC rfl ?_ | refine gD rfl ?_ | ((first | refine gE env hN (by kernel_rfl) ?_ | refine gF ?_ | refine gG ?_ | refine gH fun hlen => ?_ | refine gI (by kernel_rfl) ?_ | refine gN rfl ?_ | refine gN (by omega) ?_ | refine gJ rfl ?_ | refine gK (by omega) ?_ | refine gL (by omega) ?_ | refine gK rfl ?_ | refine gO ?_); conv => whnf))
        (refine ⟨_, _, _, callG [] [] [] rfl rfl rfl (by kernel_rfl) (spA) (by repeat' (first | exact trivial | exact Lent.refl _ | exact Lent.norm _ | apply And.intro)) rfl ⟨rfl, rfl, rfl, rfl, rfl, trivial, rfl, rfl⟩, ?_⟩; conv => whnf)
        repeat (first | refine gA ?_ | refine gB ?_ | refine gC rfl ?_ | refine gD rfl ?_ | ((first | refine gE env hN (by kernel_rfl) ?_ | refine gF ?_ | refine gG ?_ | refine gH fun hlen => ?_ | refine gI (by kernel_rfl) ?_ | refine gN rfl ?_ | refine gN (by omega) ?_ | refine gJ rfl ?_ | refine gK (by omega) ?_ | refine gL (by omega) ?_ | refine gK rfl ?_ | refine gO ?_ | refine gM ?_); conv => whnf))
        exact ret0 rfl rfl rfl
  · rw [decide_eq_false hll] at spL
    repeat (first | refine gA ?_ | refine gB ?_ | refine gC rfl ?_ | refine gD rfl ?_ | ((first | refine gE env hN (by kernel_rfl) ?_ | refine gF ?_ | refine gG ?_ | refine gH fun hlen => ?_ | refine gI (by kernel_rfl) ?_ | refine gN rfl ?_ | refine gN (by omega) ?_ | refine gJ rfl ?_ | refine gK (by omega) ?_ | refine gL (by omega) ?_ | refine gK rfl ?_ | refine gO ?_); conv => whnf))
    (refine ⟨_, _, _, callG [] [] [] rfl rfl rfl (by kernel_rfl) (spL) (by repeat' (first | exact trivial | exact Lent.refl _ | exact Lent.norm _ | apply And.intro)) rfl ⟨rfl, rfl, rfl, rfl, rfl, trivial, rfl, rfl⟩, ?_⟩; conv => whnf)
    repeat (first | refine gA ?_ | refine gB ?_ | refine gC rfl ?_ | refine gD rfl ?_ | ((first | refine gE env hN (by kernel_rfl) ?_ | refine gF ?_ | refine gG ?_ | refine gH fun hlen => ?_ | refine gI (by kernel_rfl) ?_ | refine gN rfl ?_ | refine gN (by omega) ?_ | refine gJ rfl ?_ | refine gK (by omega) ?_ | refine gL (by omega) ?_ | refine gK rfl ?_ | refine gO ?_); conv => whnf))
    (refine ⟨_, _, _, callG [] [] [] rfl rfl rfl (by kernel_rfl) (spA) (by repeat' (first | exact trivial | exact Lent.refl _ | exact Lent.norm _ | apply And.intro)) rfl ⟨rfl, rfl, rfl, rfl, rfl, trivial, rfl, rfl⟩, ?_⟩; conv => whnf)
    repeat (first | refine gA ?_ | refine gB ?_ | refine gC rfl ?_ | refine gD rfl ?_ | ((first | refine gE env hN (by kernel_rfl) ?_ | refine gF ?_ | refine gG ?_ | refine gH fun hlen => ?_ | refine gI (by kernel_rfl) ?_ | refine gN rfl ?_ | refine gN (by omega) ?_ | refine gJ rfl ?_ | refine gK (by omega) ?_ | refine gL (by omega) ?_ | refine gK rfl ?_ | refine gO ?_ | refine gM ?_); conv => whnf))
    exact ret0 rfl rfl rfl
end Go.Sx.Sp
namespace Go.Sx.Sp
open Go Go.Sx Go.Proofs
attribute [local irreducible] GoodW
theorem chain_calls {w : World} {v0 : Value} {u0 : V} (r0 : VRel w (fun _ => False) (fun _ _ => none) u0 v0) (a0 : argShape T 2 22 u0) (hg : GRel w (fun _ => False)) :
    Calls Tryd.prog 3 #[v0] w fun e w' => e = .returned (.bool true) ∧ Go.RowKit.Below w.heap.size w w' := by
  obtain ⟨l, rfl⟩ := arg_ints a0
  refine Spec.law (chain_law l) (cargs := [v0]) rfl (fun j u c hj hc => ?_) rfl hg
  match j with
  | 0 => cases hj; cases hc; exact r0
  | j + 1 => cases hj
theorem leads_calls {w : World} {v0 : Value} {u0 : V} (r0 : VRel w (fun _ => False) (fun _ _ => none) u0 v0) (a0 : argShape T 2 22 u0) (hg : GRel w (fun _ => False)) :
    Calls Tryd.prog 6 #[v0] w fun e w' => e = .returned (.bool true) ∧ Go.RowKit.Below w.heap.size w w' := by
  obtain ⟨l, rfl⟩ := arg_ints a0
  refine Spec.law (leads_law l) (cargs := [v0]) rfl (fun j u c hj hc => ?_) rfl hg
  match j with
  | 0 => cases hj; cases hc; exact r0
  | j + 1 => cases hj
end Go.Sx.Sp
