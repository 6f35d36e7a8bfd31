/- The report of a path, and the law of paths with far too many rows. -/
import Derived.Test.YtoneemdpilpnfaaDoorJThree
import Derived.Test.YtoneemdpilpnfaaDoorSxFour
set_option linter.unusedVariables false
set_option linter.unusedSimpArgs false
namespace Go.Sx.Sp
open Go Go.Sx Go.Proofs
attribute [local irreducible] GoodW famL
def repStep (r : Rep) (n : Int) : Rep := ⟨r.rows + n, if n = 0 then r.lost + 1 else r.lost, max r.most n, r.unused⟩
def repL (un : List Int) (cs : List Int) : Rep := cs.foldl repStep ⟨0, 0, 0, un⟩
def repE (l : List Table) (p : Pth) : Rep × Int := if validE l p = 0 then (repL (nodesU (planN l p) (p.steps.length + 1)).1 (cntsN l p 0), 0) else (⟨0, 0, 0, []⟩, validE l p)
theorem repL_snoc (un : List Int) {cs : List Int} {j : Nat} (h : j < cs.length) : repL un (cs.take (j + 1)) = repStep (repL un (cs.take j)) cs[j] := by
  unfold repL
  rw [List.take_succ_eq_append_getElem h, List.foldl_append]; rfl
end Go.Sx.Sp
namespace Go.Sx.Sp
open Go Go.Sx Go.Proofs
attribute [local irreducible] GoodW famL
theorem plan_bound {l : List Table} {p : Pth} (h : validE l p = 0) {i : Nat} (hi : i ≤ p.steps.length) : ∀ x ∈ cntsN l p i, 0 ≤ x ∧ x ≤ 1125899906842624 := by
  have hlen := nodesN_len l p p.steps.length (Nat.le_refl _)
  obtain ⟨k, hk⟩ : ∃ k, k + i = p.steps.length := ⟨p.steps.length - i, by omega⟩
  have hnx : (runD (nodesN l p p.steps.length) (p.steps.length + 1) k)[i]? = some (nodeAt l p p.steps.length i) := by
    obtain ⟨d, h1, _, h3⟩ := runD_shape hlen k (by omega) i _ (nodesN_get l p (Nat.le_refl _) hi)
    rw [h1, h3 (by omega)]
  have hst : ∀ q, i ≤ q → (planN l p)[q]? = (runD (nodesN l p p.steps.length) (p.steps.length + 1) (k + 1))[q]? := fun q hq => by
    unfold planN
    have := run_stable (nodesN l p p.steps.length) (p.steps.length + 1) q (k + 1) i (by omega) (by omega)
    rw [show k + 1 + i = p.steps.length + 1 by omega] at this
    exact this
  have hst2 : ∀ q, i < q → (planN l p)[q]? = (runD (nodesN l p p.steps.length) (p.steps.length + 1) k)[q]? := fun q hq => by
    rw [hst q (by omega)]
    exact run_stable (nodesN l p p.steps.length) (p.steps.length + 1) q k 1 (by omega) (by omega)
  have hko : kidsOf (runD (nodesN l p p.steps.length) (p.steps.length + 1) k) (nodeAt l p p.steps.length i) = kidsOf (planN l p) (nodeAt l p p.steps.length i) := by
    refine kidsOf_congr fun q hq => ?_
    rw [nodeAt_kids] at hq
    obtain ⟨q', g1, g2, rfl⟩ := kidsL_mem.1 hq
    have := parI_le p (i := q') (by omega)
    exact (hst2 _ (by omega)).symm
  have hc := cntOK_of h k (by omega)
  rw [show p.steps.length + 1 - 1 - k = i by omega] at hc
  have hb := hc.bnd
  obtain ⟨g1, g2⟩ := List.getElem?_eq_some_iff.1 hnx
  rw [g2] at hb
  intro x hx
  unfold cntsN at hx
  obtain ⟨r, hr, rfl⟩ := List.mem_map.1 hx
  have := hb r (List.mem_range.1 hr) _ (Nat.le_refl _)
  rw [show (nodeAt l p p.steps.length i).kids.length = (kidsOf (runD (nodesN l p p.steps.length) (p.steps.length + 1) k) (nodeAt l p p.steps.length i)).length by simp [kidsOf], List.take_length, hko] at this
  exact this
theorem repL_bound (un : List Int) (M : Int) (hM : 0 ≤ M) : ∀ (cs : List Int), (∀ x ∈ cs, 0 ≤ x ∧ x ≤ M) → ∀ j, j ≤ cs.length → (0 ≤ (repL un (cs.take j)).rows ∧ (repL un (cs.take j)).rows ≤ j * M) ∧ (0 ≤ (repL un (cs.take j)).lost ∧ (repL un (cs.take j)).lost ≤ j) ∧ (0 ≤ (repL un (cs.take j)).most ∧ (repL un (cs.take j)).most ≤ M)
  | cs, h, 0, _ => by simp [repL]; exact hM
  | cs, h, j + 1, hj => by
    have ih := repL_bound un M hM cs h j (by omega)
    have hx := h cs[j] (List.getElem_mem (by omega))
    rw [repL_snoc un (show j < cs.length by omega)]
    have e : ((j + 1 : Nat) : Int) * M = j * M + M := by rw [Int.natCast_add, Int.add_mul]; simp
    rw [e]
    unfold repStep
    simp only
    refine ⟨by omega, ?_, by omega⟩
    split <;> omega
theorem repL_un (un : List Int) : ∀ (cs : List Int) (r : Rep), (cs.foldl repStep r).unused = r.unused
  | [], _ => rfl
  | c :: cs, r => by rw [List.foldl_cons, repL_un un cs]; rfl
set_option maxHeartbeats 8000000 in
theorem report_spec (l : List Table) (p : Pth) : Spec Tryd.prog 20 [.sl (tblRows l) false, .agg p.row] [] (.tup [.agg (repE l p).1.row, .int .i64 (repE l p).2]) [] := by
  have sp1 := validP_spec l p
  refine Spec.body env Tryd.func20 rfl (by kernel_rfl) (Nat.le_of_ble_eq_true (by kernel_rfl)) (keysSub rfl) fun Γ hN hK => ?_; have hML : maxLen = 9223372036854775807 := by unfold maxLen; rfl
  repeat (first | refine gA ?_ | refine gB ?_ | refine gC rfl ?_ | refine gD rfl ?_ | ((first | refine gE env hN (by kernel_rfl) ?_ | refine gF ?_ | refine gG ?_ | refine gH fun hlen => ?_ | refine gI (by kernel_rfl) ?_ | refine gN rfl ?_ | refine gN (by omega) ?_ | refine gJ rfl ?_ | refine gK (by omega) ?_ | refine gL (by omega) ?_ | refine gK rfl ?_ | refine gO ?_); conv => whnf))
  (refine ⟨_, _, _, callG [] [] [] rfl rfl rfl (by kernel_rfl) (sp1) (by repeat' (first | exact trivial | exact Lent.refl _ | exact Lent.norm _ | apply And.intro)) rfl ⟨rfl, rfl, rfl, rfl, rfl, trivial, rfl, rfl⟩, ?_⟩; conv => whnf)
  by_cases h : validE l p = 0
  · have he : repE l p = (repL (nodesU (planN l p) (p.steps.length + 1)).1 (cntsN l p 0), 0) := by unfold repE; rw [if_pos h]
    have sp2 := new_spec l p (pathOK_of h) (cntOK_of h)
    have hlen := planN_len l p
    have hg := plan_get l p (Nat.zero_le p.steps.length)
    obtain ⟨h0, h1⟩ := List.getElem?_eq_some_iff.1 hg
    have hv := valid_path h
    have hrows : (cntsN l p 0).length ≤ 4096 := by
      rw [cntsN_len]; exact (tabOf_rows hv.1 _).1
    have sp3 := each_spec (planN l p) (p.steps.length + 1) hlen.symm h0 (by omega) (d := (cntsN l p 0, talsN l p 0)) (by rw [h1]) hrows
    have sp4 := unused_spec (planN l p) (p.steps.length + 1) hlen.symm (by omega) (planOK h)
    have hpb := plan_bound h (Nat.zero_le _)
    rw [he]
    rw [h]
    generalize (nodesU (planN l p) (p.steps.length + 1)).1 = un at *
    generalize cntsN l p 0 = cs at *
    have hrb := repL_bound un 1125899906842624 (by decide) cs hpb
    have hcl := intRows_len .i64 cs
    repeat (first | refine gA ?_ | refine gB ?_ | refine gC rfl ?_ | refine gD rfl ?_ | ((first | refine gE env hN (by kernel_rfl) ?_ | refine gF ?_ | refine gG ?_ | refine gH fun hlen => ?_ | refine gI (by kernel_rfl) ?_ | refine gN rfl ?_ | refine gN (by omega) ?_ | refine gJ rfl ?_ | refine gK (by omega) ?_ | refine gL (by omega) ?_ | refine gK rfl ?_ | refine gO ?_); conv => whnf))
    (refine ⟨_, _, _, callG [] [(0, 15), (1, 90)] [] rfl rfl rfl (by kernel_rfl) (sp2) (by repeat' (first | exact trivial | exact Lent.refl _ | exact Lent.norm _ | apply And.intro)) rfl ⟨rfl, rfl, rfl, rfl, rfl, by repeat' (first | exact trivial | rfl | apply And.intro), rfl, rfl⟩, ?_⟩; conv => whnf)
    repeat (first | refine gA ?_ | refine gB ?_ | refine gC rfl ?_ | refine gD rfl ?_ | ((first | refine gE env hN (by kernel_rfl) ?_ | refine gF ?_ | refine gG ?_ | refine gH fun hlen => ?_ | refine gI (by kernel_rfl) ?_ | refine gN rfl ?_ | refine gN (by omega) ?_ | refine gJ rfl ?_ | refine gK (by omega) ?_ | refine gL (by omega) ?_ | refine gK rfl ?_ | refine gO ?_); conv => whnf))
    (refine ⟨_, _, _, callG [(0, 15), (1, 90)] [] [] rfl rfl rfl (by kernel_rfl) (sp4) (by repeat' (first | exact trivial | exact Lent.refl _ | exact Lent.norm _ | apply And.intro)) rfl ⟨rfl, rfl, rfl, rfl, rfl, by repeat' (first | exact trivial | rfl | apply And.intro), rfl, rfl⟩, ?_⟩; conv => whnf)
    repeat (first | refine gA ?_ | refine gB ?_ | refine gC rfl ?_ | refine gD rfl ?_ | ((first | refine gE env hN (by kernel_rfl) ?_ | refine gF ?_ | refine gG ?_ | refine gH fun hlen => ?_ | refine gI (by kernel_rfl) ?_ | refine gN rfl ?_ | refine gN (by omega) ?_ | refine gJ rfl ?_ | refine gK (by omega) ?_ | refine gL (by omega) ?_ | refine gK rfl ?_ | refine gO ?_); conv => whnf))
    (refine ⟨_, _, _, callG [(0, 15), (1, 90)] [] [] rfl rfl rfl (by kernel_rfl) (sp3) (by repeat' (first | exact trivial | exact Lent.refl _ | exact Lent.norm _ | apply And.intro)) rfl ⟨rfl, rfl, rfl, rfl, rfl, by repeat' (first | exact trivial | rfl | apply And.intro), rfl, rfl⟩, ?_⟩; conv => whnf)
    repeat (first | refine gA ?_ | refine gB ?_ | refine gC rfl ?_ | refine gD rfl ?_ | ((first | refine gE env hN (by kernel_rfl) ?_ | refine gF ?_ | refine gG ?_ | refine gH fun hlen => ?_ | refine gI (by kernel_rfl) ?_ | refine gN rfl ?_ | refine gN (by omega) ?_ | refine gJ rfl ?_ | refine gK (by omega) ?_ | refine gL (by omega) ?_ | refine gK rfl ?_ | refine gO ?_); conv => whnf))
    refine W.leG (mp := [(3, 3), (4, 4), (8, 8)]) (bo := []) (st' := ⟨[(4, .bp 4 0), (8, .bp 8 0), (25, .sl (intRows .i64 cs) false), (26, .int .i64 (intRows .i64 cs).length), (27, .int .i64 0)], [(3, [.rows 2 [p.row] none]), (4, [.rows 4 [[.int .i64 0, .int .i64 0, .int .i64 0, .nils]] none]), (8, [.rows 4 [[.int .i64 0, .int .i64 0, .int .i64 0, .sl (intRows .i64 un) false]] none])], [3, 4, 8]⟩)
      (LeG.mk' rfl rfl rfl (by repeat' (first | exact trivial | exact ⟨_, .refl _, rfl⟩ | apply And.intro)) (.cons 3 rfl rfl (.refl _) rfl (.cons 4 rfl rfl (.refl _) rfl (.cons 8 rfl rfl (.refl _) rfl .nil))) rfl rfl (by rw [hK]; rfl)) ?_
    refine W.loopG (fun n st => ∃ j : Nat, j ≤ cs.length ∧ n = cs.length - j ∧ st = ⟨[(4, .bp 4 0), (8, .bp 8 0), (25, .sl (intRows .i64 cs) false), (26, .int .i64 (intRows .i64 cs).length), (27, .int .i64 j)], [(4, [.rows 4 [[.int .i64 0, .int .i64 0, .int .i64 0, .nils]] none]), (8, [.rows 4 [(repL un (cs.take j)).row] none])], [4, 8]⟩)
      cs.length _ ⟨0, by omega, by omega, rfl⟩ ⟨[(4, 4), (8, 8)], [], [], LeG.mk' rfl rfl rfl (by repeat' (first | exact trivial | exact ⟨_, .refl _, rfl⟩ | apply And.intro)) (.cons 4 rfl rfl (.refl _) rfl (.cons 8 rfl rfl (.refl _) rfl .nil)) rfl rfl (by rw [hK]; rfl)⟩ ?_
    rintro n st ⟨j, hj, rfl, rfl⟩
    have hb0 := hrb j hj
    repeat (first | refine gA ?_ | refine gB ?_ | refine gC rfl ?_ | refine gD rfl ?_ | ((first | refine gE env hN (by kernel_rfl) ?_ | refine gF ?_ | refine gG ?_ | refine gH fun hlen => ?_ | refine gI (by kernel_rfl) ?_ | refine gN rfl ?_ | refine gN (by omega) ?_ | refine gJ rfl ?_ | refine gK (by omega) ?_ | refine gL (by omega) ?_ | refine gK rfl ?_ | refine gO ?_); conv => whnf))
    refine boolRes_split (fun hb => ?_) (fun hb => ?_) <;> conv => whnf
    · have hlt : j < cs.length := by omega
      have hg1 := intRows_get (k := .i64) hlt
      have hsn := repL_snoc un hlt
      have hb1 := hrb (j + 1) (by omega)
      have hun0 : (repL un (cs.take j)).unused = un := repL_un un _ _
      generalize repL un (cs.take j) = R0 at *
      have hx := hpb cs[j] (List.getElem_mem hlt)
      generalize cs[j] = x at *
      unfold repStep at hsn
      by_cases hx0 : x = 0
      · rw [if_pos hx0] at hsn
        rw [hsn] at hb1
        simp only at hb1
        repeat (first | refine gA ?_ | refine gB ?_ | refine gC rfl ?_ | refine gD rfl ?_ | ((first | refine gE env hN (by kernel_rfl) ?_ | refine gF ?_ | refine gG ?_ | refine gH fun hlen => ?_ | refine gI (by kernel_rfl) ?_ | refine gN rfl ?_ | refine gN (by omega) ?_ | refine gJ rfl ?_ | refine gK (by omega) ?_ | refine gL (by omega) ?_ | refine gK rfl ?_ | refine gO ?_); conv => whnf))
        refine rowAt_of (by simpa using hg1) ?_
        conv => whnf
        repeat (first | refine gA ?_ | refine gB ?_ | refine gC rfl ?_ | refine gD rfl ?_ | ((first | refine gE env hN (by kernel_rfl) ?_ | refine gF ?_ | refine gG ?_ | refine gH fun hlen => ?_ | refine gI (by kernel_rfl) ?_ | refine gN rfl ?_ | refine gN (by omega) ?_ | refine gJ rfl ?_ | refine gK (by omega) ?_ | refine gL (by omega) ?_ | refine gK rfl ?_ | refine gO ?_); conv => whnf))
        refine ⟨_, _, ?_, ⟨j + 1, by omega, rfl, rfl⟩, [(4, 4), (8, 8)], [], [], LeG.mk' rfl rfl rfl (by repeat' (first | exact trivial | exact ⟨_, .refl _, rfl⟩ | apply And.intro)) (.cons 4 rfl rfl (.refl _) rfl (.cons 8 rfl rfl (.refl _) ?_ .nil)) rfl rfl (by rw [hK]; rfl)⟩
        · omega
        · rw [hsn]; rfl
      · rw [if_neg hx0] at hsn
        rw [hsn] at hb1
        simp only at hb1
        repeat (first | refine gA ?_ | refine gB ?_ | refine gC rfl ?_ | refine gD rfl ?_ | ((first | refine gE env hN (by kernel_rfl) ?_ | refine gF ?_ | refine gG ?_ | refine gH fun hlen => ?_ | refine gI (by kernel_rfl) ?_ | refine gN rfl ?_ | refine gN (by omega) ?_ | refine gJ rfl ?_ | refine gK (by omega) ?_ | refine gL (by omega) ?_ | refine gK rfl ?_ | refine gO ?_); conv => whnf))
        refine rowAt_of (by simpa using hg1) ?_
        conv => whnf
        repeat (first | refine gA ?_ | refine gB ?_ | refine gC rfl ?_ | refine gD rfl ?_ | ((first | refine gE env hN (by kernel_rfl) ?_ | refine gF ?_ | refine gG ?_ | refine gH fun hlen => ?_ | refine gI (by kernel_rfl) ?_ | refine gN rfl ?_ | refine gN (by omega) ?_ | refine gJ rfl ?_ | refine gK (by omega) ?_ | refine gL (by omega) ?_ | refine gK rfl ?_ | refine gO ?_); conv => whnf))
        refine ⟨_, _, ?_, ⟨j + 1, by omega, rfl, rfl⟩, [(4, 4), (8, 8)], [], [], LeG.mk' rfl rfl rfl (by repeat' (first | exact trivial | exact ⟨_, .refl _, rfl⟩ | apply And.intro)) (.cons 4 rfl rfl (.refl _) rfl (.cons 8 rfl rfl (.refl _) ?_ .nil)) rfl rfl (by rw [hK]; rfl)⟩
        · omega
        · rw [hsn]; rfl
    · have hje : j = cs.length := by omega
      rw [hje, List.take_length]
      repeat (first | refine gA ?_ | refine gB ?_ | refine gC rfl ?_ | refine gD rfl ?_ | ((first | refine gE env hN (by kernel_rfl) ?_ | refine gF ?_ | refine gG ?_ | refine gH fun hlen => ?_ | refine gI (by kernel_rfl) ?_ | refine gN rfl ?_ | refine gN (by omega) ?_ | refine gJ rfl ?_ | refine gK (by omega) ?_ | refine gL (by omega) ?_ | refine gK rfl ?_ | refine gO ?_); conv => whnf))
      (refine gM ?_; conv => whnf)
      exact retH rfl (.norm _) rfl rfl rfl trivial
  · have he : repE l p = (⟨0, 0, 0, []⟩, validE l p) := by unfold repE; rw [if_neg h]
    rw [he]
    repeat (first | refine gA ?_ | refine gB ?_ | refine gC rfl ?_ | refine gD rfl ?_ | ((first | refine gE env hN (by kernel_rfl) ?_ | refine gF ?_ | refine gG ?_ | refine gH fun hlen => ?_ | refine gI (by kernel_rfl) ?_ | refine gN rfl ?_ | refine gN (by omega) ?_ | refine gJ rfl ?_ | refine gK (by omega) ?_ | refine gL (by omega) ?_ | refine gK rfl ?_ | refine gO ?_); conv => whnf))
    (refine gM ?_; conv => whnf)
    exact retH rfl (.norm _) rfl rfl rfl trivial
end Go.Sx.Sp
namespace Go.Sx.Sp
open Go Go.Sx Go.Proofs
attribute [local irreducible] GoodW famL
def awX : Cell := ⟨false, [120]⟩
def awY : Cell := ⟨false, [121]⟩
def awL : List Table := [⟨1, [], [⟨[], [awX, awX]⟩]⟩, ⟨2, [], [⟨[], [awX, awY, awX, awX]⟩]⟩]
def awP : Pth := ⟨1, [⟨1, 0, 2, 0⟩]⟩
theorem aw0 : validE awL awP = 0 := by decide +kernel
theorem aw1a : cntsN awL awP 0 = [3, 3] := by decide +kernel
theorem aw1b : (nodesU (planN awL awP) (awP.steps.length + 1)).1 = [1] := by decide +kernel
theorem aw1 : repE awL awP = (⟨6, 0, 3, [1]⟩, 0) := by
  unfold repE
  rw [if_pos aw0, aw1a, aw1b]
  decide +kernel
theorem aw2a : upN awL awP awP.steps.length = 3 := by decide +kernel
theorem aw2 : upperE awL awP = (3, 0) := by
  unfold upperE
  rw [if_pos aw0, aw2a]
def awR : Rep := ⟨6, 0, 3, [1]⟩
theorem awS1 : Spec Tryd.prog 20 [.sl (tblRows awL) false, .agg awP.row] [] (.tup [.agg awR.row, .int .i64 0]) [] := by
  have sp := report_spec awL awP
  rw [aw1] at sp
  exact sp
theorem awS2 : Spec Tryd.prog 24 [.sl (tblRows awL) false, .agg awP.row] [] (.tup [.int .i64 3, .int .i64 0]) [] := by
  have sp := pathUpper_spec awL awP
  rw [aw2] at sp
  exact sp
theorem awS3 : Spec Tryd.prog 25 [.agg awR.row, .agg awR.row] [] (.bool true) [] := by
  have sp := same_spec awR awR
  rw [decide_eq_true rfl] at sp
  exact sp
set_option maxHeartbeats 8000000 in
theorem awake32_spec : Spec Tryd.prog 14 [] [] (.bool true) [] := by
  have sp1 := awS1
  have sp2 := awS2
  have sp3 := awS3
  refine Spec.body env Tryd.func14 rfl (by kernel_rfl) (Nat.le_of_ble_eq_true (by kernel_rfl)) (keysSub rfl) fun Γ hN hK => ?_; have hML : maxLen = 9223372036854775807 := by unfold maxLen; rfl
  repeat (first | refine gA ?_ | refine gB ?_ | refine gC rfl ?_ | refine gD rfl ?_ | ((first | refine gE env hN (by kernel_rfl) ?_ | refine gF ?_ | refine gG ?_ | refine gH fun hlen => ?_ | refine gI (by kernel_rfl) ?_ | refine gN rfl ?_ | refine gN (by omega) ?_ | refine gJ rfl ?_ | refine gK (by omega) ?_ | refine gL (by omega) ?_ | refine gK rfl ?_ | refine gO ?_); conv => whnf))
  (refine ⟨_, _, _, callG [] [] [] rfl rfl rfl (by kernel_rfl) (sp1) (by repeat' (first | exact trivial | exact Lent.refl _ | exact Lent.norm _ | apply And.intro)) rfl ⟨rfl, rfl, rfl, rfl, rfl, trivial, rfl, rfl⟩, ?_⟩; conv => whnf)
  repeat ((first | refine gI (by kernel_rfl) ?_ | refine gH fun hlen => ?_ | refine gN rfl ?_ | refine gN (by omega) ?_ | refine gJ rfl ?_ | refine gK (by omega) ?_ | refine gL (by omega) ?_ | refine gK rfl ?_ | refine gO ?_); conv => whnf)
  refine gA ?_
  refine W.leG (mp := [(3, 3), (4, 4)]) (bo := []) (st' := ⟨[(2, .sl (tblRows awL) false), (3, .bp 3 0), (4, .bp 4 0), (5, .int .i64 0)], [(3, [.rows 2 [awP.row] none]), (4, [.rows 4 [awR.row] none])], [3, 4]⟩)
    (LeG.mk' rfl rfl rfl (by repeat' (first | exact trivial | exact ⟨_, .refl _, rfl⟩ | apply And.intro)) (.cons 3 rfl rfl (.refl _) rfl (.cons 4 rfl rfl (.refl _) rfl .nil)) rfl rfl (by rw [hK]; rfl)) ?_
  repeat (first | refine gA ?_ | refine gB ?_ | refine gC rfl ?_ | refine gD rfl ?_ | ((first | refine gE env hN (by kernel_rfl) ?_ | refine gF ?_ | refine gG ?_ | refine gH fun hlen => ?_ | refine gI (by kernel_rfl) ?_ | refine gN rfl ?_ | refine gN (by omega) ?_ | refine gJ rfl ?_ | refine gK (by omega) ?_ | refine gL (by omega) ?_ | refine gK rfl ?_ | refine gO ?_); conv => whnf))
  (refine ⟨_, _, _, callG [] [] [] rfl rfl rfl (by kernel_rfl) (sp2) (by repeat' (first | exact trivial | exact Lent.refl _ | exact Lent.norm _ | apply And.intro)) rfl ⟨rfl, rfl, rfl, rfl, rfl, trivial, rfl, rfl⟩, ?_⟩; conv => whnf)
  repeat (first | refine gA ?_ | refine gB ?_ | refine gC rfl ?_ | refine gD rfl ?_ | ((first | refine gE env hN (by kernel_rfl) ?_ | refine gF ?_ | refine gG ?_ | refine gH fun hlen => ?_ | refine gI (by kernel_rfl) ?_ | refine gN rfl ?_ | refine gN (by omega) ?_ | refine gJ rfl ?_ | refine gK (by omega) ?_ | refine gL (by omega) ?_ | refine gK rfl ?_ | refine gO ?_); conv => whnf))
  (refine ⟨_, _, _, callG [] [] [] rfl rfl rfl (by kernel_rfl) (sp3) (by repeat' (first | exact trivial | exact Lent.refl _ | exact Lent.norm _ | apply And.intro)) rfl ⟨rfl, rfl, rfl, rfl, rfl, trivial, rfl, rfl⟩, ?_⟩; conv => whnf)
  repeat (first | refine gA ?_ | refine gB ?_ | refine gC rfl ?_ | refine gD rfl ?_ | ((first | refine gE env hN (by kernel_rfl) ?_ | refine gF ?_ | refine gG ?_ | refine gH fun hlen => ?_ | refine gI (by kernel_rfl) ?_ | refine gN rfl ?_ | refine gN (by omega) ?_ | refine gJ rfl ?_ | refine gK (by omega) ?_ | refine gL (by omega) ?_ | refine gK rfl ?_ | refine gO ?_ | refine gM ?_); conv => whnf))
  exact ret0 rfl rfl rfl
end Go.Sx.Sp
namespace Go.Sx.Sp
open Go Go.Sx Go.Proofs
attribute [local irreducible] GoodW famL
def manyT (i m : Nat) : Table := ⟨(i + 1 : Nat), [], [⟨[], List.replicate (m + 1) awX⟩]⟩
def manyL (n : List Nat) (k : Nat) : List Table := (List.range k).map fun i => manyT i (n.getD i 0)
def manySt (i : Nat) : Stp := ⟨(i : Nat), 0, (i + 1 : Nat), 0⟩
def manyS (k : Nat) : List Stp := (List.range (k - 1)).map fun i => manySt (i + 1)
def manyP (k : Nat) : Pth := ⟨1, manyS k⟩
def manyW (n : List Nat) : Nat → Int
  | 0 => 1
  | k + 1 => manyW n k * (1 + (n.getD k 0 : Int))
def u8Row (n : List Nat) : List V := n.map fun x => .int .u8 (x : Nat)
theorem manyL_snoc (n : List Nat) (k : Nat) : manyL n (k + 1) = manyL n k ++ [manyT k (n.getD k 0)] := by simp [manyL, List.range_succ]
theorem manyL_len (n : List Nat) (k : Nat) : (manyL n k).length = k := by simp [manyL]
theorem manyS_snoc (k : Nat) : manyS (k + 2) = manyS (k + 1) ++ [manySt (k + 1)] := by
  unfold manyS
  rw [show k + 2 - 1 = (k + 1 - 1) + 1 by omega, List.range_succ, List.map_append]; rfl
theorem tblRows_snoc (a : List Table) (t : Table) : tblRows (a ++ [t]) = tblRows a ++ [t.row] := by simp [tblRows]
theorem stpRows_snoc (a : List Stp) (t : Stp) : stpRows (a ++ [t]) = stpRows a ++ [t.row] := by simp [stpRows]
theorem cellRows_rep (m : Nat) : cellRows (List.replicate (m + 1) awX) = cellRows (List.replicate m awX) ++ [[.bool false, .str [120]]] := by
  rw [List.replicate_succ', cellRows, List.map_append]; rfl
theorem manyW_bound {n : List Nat} (h : ∀ x ∈ n, x < 256) : ∀ k, 1 ≤ manyW n k ∧ manyW n k ≤ 256 ^ k
  | 0 => by simp [manyW]
  | k + 1 => by
    have ih := manyW_bound h k
    have hx : n.getD k 0 < 256 := by
      rw [List.getD_eq_getElem?_getD]
      cases e : n[k]? with
      | none => simp
      | some x => exact h x (List.mem_of_getElem? e)
    simp only [manyW]
    generalize n.getD k 0 = x at *
    rw [Int.pow_succ]
    refine ⟨?_, Int.mul_le_mul ih.2 (by omega) (by omega) (Int.le_of_lt (Int.pow_pos (by decide)))⟩
    have := Int.mul_le_mul (a := 1) (b := 1) (c := manyW n k) (d := 1 + (x : Int)) ih.1 (by omega) (by omega) (by omega)
    simpa using this
theorem pow256 {a b : Nat} (h : a ≤ b) : (256 : Int) ^ a ≤ 256 ^ b := by
  induction b with
  | zero => rw [Nat.le_zero.1 h]; exact Int.le_refl _
  | succ b ih =>
    rcases Nat.lt_or_ge a (b + 1) with h1 | h1
    · have := ih (by omega)
      rw [Int.pow_succ]
      have h2 : (0 : Int) < 256 ^ b := Int.pow_pos (by decide)
      omega
    · rw [show a = b + 1 by omega]; exact Int.le_refl _
theorem u8_part {n : List Nat} {k : Nat} (h : k < n.length) {ti : TI} (h1 : ti.k.agg = false) (h2 : ti.sz = 1) : part ti (u8Row n) ((k : Int).toNat * ti.sz) = some (.int .u8 (n.getD k 0 : Nat)) := by
  unfold part
  rw [h1, h2]
  simp [u8Row, h]
def manyR (n : List Nat) : Rep := ⟨manyW n 5, 0, (manyW n 5).tdiv (1 + (n.getD 0 0 : Int)), [0, 0, 0, 0]⟩
set_option maxHeartbeats 16000000 in
theorem pathMany_walk (n : List Nat) (hn : n.length = 5) (hb : ∀ x ∈ n, x < 256) (cs : List Int) (h1 : repE (manyL n 5) (manyP 5) = (manyR n, 0)) (h2 : eachE (manyL n 5) (manyP 5) = (cs, 0)) (hcs : cs.length = n.getD 0 0 + 1) (h3 : upperE (manyL n 5) (manyP 5) = ((manyW n 5).tdiv (1 + (n.getD 0 0 : Int)), 0)) : Spec Tryd.prog 5 [.agg (u8Row n)] [] (.bool true) [] := by
  obtain ⟨n0, n1, n2, n3, n4, rfl⟩ : ∃ n0 n1 n2 n3 n4, n = [n0, n1, n2, n3, n4] := by
    match n, hn with
    | [n0, n1, n2, n3, n4], _ => exact ⟨_, _, _, _, _, rfl⟩
  refine Spec.body env Tryd.func5 rfl (by kernel_rfl) (Nat.le_of_ble_eq_true (by kernel_rfl)) (keysSub rfl) fun Γ hN hK => ?_; have hML : maxLen = 9223372036854775807 := by unfold maxLen; rfl
  repeat (first | refine gA ?_ | refine gB ?_ | refine gC rfl ?_ | refine gD rfl ?_ | ((first | refine gE env hN (by kernel_rfl) ?_ | refine gF ?_ | refine gG ?_ | refine gH fun hlen => ?_ | refine gI (by kernel_rfl) ?_ | refine gN rfl ?_ | refine gN (by omega) ?_ | refine gJ rfl ?_ | refine gK (by omega) ?_ | refine gL (by omega) ?_ | refine gK rfl ?_ | refine gO ?_); conv => whnf))
  refine W.ownNil 3 90 3 rfl rfl ?_
  refine W.ownCell 4 0 1 91 4 rfl rfl rfl rfl rfl ?_
  refine W.loopG (fun m st => ∃ k : Nat, k ≤ 5 ∧ m = 5 - k ∧ st = ⟨[(1, .bp 1 0), (3, .osl 90 0 0 (tblRows (manyL [n0, n1, n2, n3, n4] k)).length (tblRows (manyL [n0, n1, n2, n3, n4] k)).length), (4, .bp 4 0), (5, .int .i64 (manyW [n0, n1, n2, n3, n4] k)), (18, .agg (u8Row [n0, n1, n2, n3, n4])), (19, .int .i64 k)], [(1, [.rows 5 [u8Row [n0, n1, n2, n3, n4]] none]), (4, [.rows 2 [[.int .i64 1, .osl 91 0 0 (stpRows (manyS k)).length (stpRows (manyS k)).length]] none]), (90, [.rows 3 (tblRows (manyL [n0, n1, n2, n3, n4] k)) (some [])]), (91, [.rows 4 (stpRows (manyS k)) (some [])])], [1, 4, 90, 91]⟩)
    5 _ ⟨0, by omega, by omega, rfl⟩ ⟨[(1, 1), (4, 4), (90, 90), (91, 91)], [], [], LeG.mk' rfl rfl rfl (by repeat' (first | exact trivial | exact ⟨_, .refl _, rfl⟩ | apply And.intro)) (.cons 1 rfl rfl (.refl _) rfl (.cons 4 rfl rfl (.refl _) rfl (.cons 90 rfl rfl (.refl _) rfl (.cons 91 rfl rfl (.refl _) rfl .nil)))) rfl rfl (by rw [hK]; rfl)⟩ ?_
  rintro m st ⟨k, hk, rfl, rfl⟩
  have hTl := tblRows_len (manyL [n0, n1, n2, n3, n4] k)
  rw [manyL_len] at hTl
  have hSl := stpRows_len (manyS k)
  have hS2 : (manyS k).length = k - 1 := by simp [manyS]
  rw [hS2] at hSl
  have hb0 := hb
  clear hb
  have hW := manyW_bound hb0 k
  have hW5 := pow256 hk
  have h5 : (256 : Int) ^ 5 = 1099511627776 := by decide
  repeat (first | refine gA ?_ | refine gB ?_ | refine gC rfl ?_ | refine gD rfl ?_ | ((first | refine gE env hN (by kernel_rfl) ?_ | refine gF ?_ | refine gG ?_ | refine gH fun hlen => ?_ | refine gI (by kernel_rfl) ?_ | refine gN rfl ?_ | refine gN (by omega) ?_ | refine gJ rfl ?_ | refine gK (by omega) ?_ | refine gL (by omega) ?_ | refine gK rfl ?_ | refine gO ?_); conv => whnf))
  refine boolRes_split (fun hb => ?_) (fun hb => ?_) <;> conv => whnf
  · have hlt : k < 5 := by omega
    have hLs := manyL_snoc [n0, n1, n2, n3, n4] k
    have hWs : manyW [n0, n1, n2, n3, n4] (k + 1) = manyW [n0, n1, n2, n3, n4] k * (1 + ([n0, n1, n2, n3, n4].getD k 0 : Int)) := rfl
    have hpt := @u8_part [n0, n1, n2, n3, n4] k (by simpa using hlt)
    have hW1 := manyW_bound hb0 (k + 1)
    have hW6 := pow256 (show k + 1 ≤ 5 by omega)
    have hx : [n0, n1, n2, n3, n4].getD k 0 < 256 := by
      have : k < [n0, n1, n2, n3, n4].length := by simpa using hlt
      rw [List.getD_eq_getElem?_getD, List.getElem?_eq_getElem this]
      exact hb0 _ (List.getElem_mem this)
    generalize [n0, n1, n2, n3, n4].getD k 0 = x at *
    repeat (first | refine gA ?_ | refine gB ?_ | refine gC rfl ?_ | refine gD rfl ?_ | ((first | refine gE env hN (by kernel_rfl) ?_ | refine gF ?_ | refine gG ?_ | refine gH fun hlen => ?_ | refine gI (by kernel_rfl) ?_ | refine gN rfl ?_ | refine gN (by omega) ?_ | refine gJ rfl ?_ | refine gK (by omega) ?_ | refine gL (by omega) ?_ | refine gK rfl ?_); conv => whnf))
    split
    rotate_left
    · rename_i hv
      rw [hpt rfl rfl] at hv
      cases hv
    rename_i v hv
    rw [hpt rfl rfl] at hv
    cases hv
    repeat (first | refine gA ?_ | refine gB ?_ | refine gC rfl ?_ | refine gD rfl ?_ | ((first | refine gE env hN (by kernel_rfl) ?_ | refine gF ?_ | refine gG ?_ | refine gH fun hlen => ?_ | refine gI (by kernel_rfl) ?_ | refine gN rfl ?_ | refine gN (by omega) ?_ | refine gJ rfl ?_ | refine gK (by omega) ?_ | refine gL (by omega) ?_ | refine gK rfl ?_); conv => whnf))
    refine Or.inl ?_
    conv => whnf
    repeat (first | refine gA ?_ | refine gB ?_ | refine gC rfl ?_ | refine gD rfl ?_ | ((first | refine gE env hN (by kernel_rfl) ?_ | refine gF ?_ | refine gG ?_ | refine gH fun hlen => ?_ | refine gI (by kernel_rfl) ?_ | refine gN rfl ?_ | refine gN (by omega) ?_ | refine gJ rfl ?_ | refine gK (by omega) ?_ | refine gL (by omega) ?_ | refine gK rfl ?_ | refine gO ?_); conv => whnf))
    refine W.leG (mp := [(1, 1), (4, 4), (8, 8), (26, 26), (90, 90), (91, 91)]) (bo := []) (st' := ⟨[(1, .bp 1 0), (3, .osl 90 0 0 (tblRows (manyL [n0, n1, n2, n3, n4] k)).length (tblRows (manyL [n0, n1, n2, n3, n4] k)).length), (4, .bp 4 0), (5, .int .i64 (manyW [n0, n1, n2, n3, n4] k)), (6, .int .i64 k), (8, .bp 8 0), (9, .int .i64 (1 + (x : Int))), (18, .agg (u8Row [n0, n1, n2, n3, n4])), (19, .int .i64 k), (31, .int .i64 (1 + (x : Int))), (32, .int .i64 0)], [(1, [.rows 5 [u8Row [n0, n1, n2, n3, n4]] none]), (4, [.rows 2 [[.int .i64 1, .osl 91 0 0 (stpRows (manyS k)).length (stpRows (manyS k)).length]] none]), (8, [.rows 3 [[.int .i64 ((k : Int) + 1), .str [], .osl 26 0 0 1 1]] none]), (26, [.rows 2 [[.str [], .nils]] none]), (90, [.rows 3 (tblRows (manyL [n0, n1, n2, n3, n4] k)) (some [])]), (91, [.rows 4 (stpRows (manyS k)) (some [])])], [1, 4, 8, 26, 90, 91]⟩)
      (LeG.mk' rfl rfl rfl (by repeat' (first | exact trivial | exact ⟨_, .refl _, rfl⟩ | apply And.intro)) (.cons 1 rfl rfl (.refl _) rfl (.cons 4 rfl rfl (.refl _) rfl (.cons 8 rfl rfl (.refl _) rfl (.cons 26 rfl rfl (.refl _) rfl (.cons 90 rfl rfl (.refl _) rfl (.cons 91 rfl rfl (.refl _) rfl .nil)))))) rfl rfl (by rw [hK]; rfl)) ?_
    refine W.ownCell 26 0 1 92 2 rfl rfl rfl rfl rfl ?_
    refine W.loopG (fun m st => ∃ j : Nat, j ≤ x + 1 ∧ m = x + 1 - j ∧ st = ⟨[(1, .bp 1 0), (3, .osl 90 0 0 (tblRows (manyL [n0, n1, n2, n3, n4] k)).length (tblRows (manyL [n0, n1, n2, n3, n4] k)).length), (4, .bp 4 0), (5, .int .i64 (manyW [n0, n1, n2, n3, n4] k)), (6, .int .i64 k), (8, .bp 8 0), (9, .int .i64 (1 + (x : Int))), (18, .agg (u8Row [n0, n1, n2, n3, n4])), (19, .int .i64 k), (31, .int .i64 (1 + (x : Int))), (32, .int .i64 j)], [(1, [.rows 5 [u8Row [n0, n1, n2, n3, n4]] none]), (4, [.rows 2 [[.int .i64 1, .osl 91 0 0 (stpRows (manyS k)).length (stpRows (manyS k)).length]] none]), (8, [.rows 3 [[.int .i64 ((k : Int) + 1), .str [], .osl 26 0 0 1 1]] none]), (26, [.rows 2 [[.str [], .osl 92 0 0 (cellRows (List.replicate j awX)).length (cellRows (List.replicate j awX)).length]] none]), (92, [.rows 2 (cellRows (List.replicate j awX)) (some [])]), (90, [.rows 3 (tblRows (manyL [n0, n1, n2, n3, n4] k)) (some [])]), (91, [.rows 4 (stpRows (manyS k)) (some [])])], [1, 4, 8, 26, 92, 90, 91]⟩)
      (x + 1) _ ⟨0, by omega, by omega, rfl⟩ ⟨[(1, 1), (4, 4), (8, 8), (26, 26), (92, 92), (90, 90), (91, 91)], [], [], LeG.mk' rfl rfl rfl (by repeat' (first | exact trivial | exact ⟨_, .refl _, rfl⟩ | apply And.intro)) (.cons 1 rfl rfl (.refl _) rfl (.cons 4 rfl rfl (.refl _) rfl (.cons 8 rfl rfl (.refl _) rfl (.cons 26 rfl rfl (.refl _) rfl (.cons 92 rfl rfl (.refl _) rfl (.cons 90 rfl rfl (.refl _) rfl (.cons 91 rfl rfl (.refl _) rfl .nil))))))) rfl rfl (by rw [hK]; rfl)⟩ ?_
    rintro m st ⟨j, hj, rfl, rfl⟩
    have hjl := cellRows_len (List.replicate j awX)
    rw [List.length_replicate] at hjl
    repeat (first | refine gA ?_ | refine gB ?_ | refine gC rfl ?_ | refine gD rfl ?_ | ((first | refine gE env hN (by kernel_rfl) ?_ | refine gF ?_ | refine gG ?_ | refine gH fun hlen => ?_ | refine gI (by kernel_rfl) ?_ | refine gN rfl ?_ | refine gN (by omega) ?_ | refine gJ rfl ?_ | refine gK (by omega) ?_ | refine gL (by omega) ?_ | refine gK rfl ?_ | refine gO ?_); conv => whnf))
    refine boolRes_split (fun hb => ?_) (fun hb => ?_) <;> conv => whnf
    · have hjlt : j < x + 1 := by omega
      have hrep := cellRows_rep j
      repeat (first | refine gA ?_ | refine gB ?_ | refine gC rfl ?_ | refine gD rfl ?_ | ((first | refine gE env hN (by kernel_rfl) ?_ | refine gF ?_ | refine gG ?_ | refine gH fun hlen => ?_ | refine gI (by kernel_rfl) ?_ | refine gN rfl ?_ | refine gN (by omega) ?_ | refine gJ rfl ?_ | refine gK (by omega) ?_ | refine gL (by omega) ?_ | refine gK rfl ?_ | refine gO ?_); conv => whnf))
      refine ⟨⟨rowsSz_cons rfl rowsSz_nil, rfl⟩, fitsN (n := (cellRows (List.replicate j awX)).length + 1) (b := 24) (by omega) (by omega), .inl ⟨rfl, rfl, ?_⟩⟩
      conv => whnf
      repeat (first | refine gA ?_ | refine gB ?_ | refine gC rfl ?_ | refine gD rfl ?_ | ((first | refine gE env hN (by kernel_rfl) ?_ | refine gF ?_ | refine gG ?_ | refine gH fun hlen => ?_ | refine gI (by kernel_rfl) ?_ | refine gN rfl ?_ | refine gN (by omega) ?_ | refine gJ rfl ?_ | refine gK (by omega) ?_ | refine gL (by omega) ?_ | refine gK rfl ?_ | refine gO ?_); conv => whnf))
      refine ⟨_, _, ?_, ⟨j + 1, by omega, rfl, rfl⟩, [(1, 1), (4, 4), (8, 8), (26, 26), (92, 92), (90, 90), (91, 91)], [], [], LeG.mk' rfl rfl rfl (by repeat' (first | exact trivial | exact ⟨_, .refl _, rfl⟩ | apply And.intro)) (.cons 1 rfl rfl (.refl _) rfl (.cons 4 rfl rfl (.refl _) rfl (.cons 8 rfl rfl (.refl _) rfl (.cons 26 rfl rfl (.refl _) ?_ (.cons 92 rfl rfl (.refl _) ?_ (.cons 90 rfl rfl (.refl _) rfl (.cons 91 rfl rfl (.refl _) rfl .nil))))))) rfl rfl (by rw [hK]; rfl)⟩
      · omega
      · rw [hrep, List.length_append]; rfl
      · rw [hrep]; rfl
    · have hje : j = x + 1 := by omega
      subst hje
      refine W.leG (mp := [(1, 1), (4, 4), (8, 8), (26, 26), (90, 90), (91, 91)]) (bo := [92]) (st' := ⟨[(1, .bp 1 0), (3, .osl 90 0 0 (tblRows (manyL [n0, n1, n2, n3, n4] k)).length (tblRows (manyL [n0, n1, n2, n3, n4] k)).length), (4, .bp 4 0), (5, .int .i64 (manyW [n0, n1, n2, n3, n4] k)), (6, .int .i64 k), (8, .bp 8 0), (9, .int .i64 (1 + (x : Int))), (18, .agg (u8Row [n0, n1, n2, n3, n4])), (19, .int .i64 k), (33, .bool false)], [(1, [.rows 5 [u8Row [n0, n1, n2, n3, n4]] none]), (4, [.rows 2 [[.int .i64 1, .osl 91 0 0 (stpRows (manyS k)).length (stpRows (manyS k)).length]] none]), (8, [.rows 3 [[.int .i64 ((k : Int) + 1), .str [], .osl 26 0 0 1 1]] none]), (26, [.rows 2 [[.str [], .sl (cellRows (List.replicate (x + 1) awX)) false]] none]), (90, [.rows 3 (tblRows (manyL [n0, n1, n2, n3, n4] k)) (some [])]), (91, [.rows 4 (stpRows (manyS k)) (some [])])], [1, 4, 8, 26, 90, 91]⟩)
        (LeG.mk' rfl rfl rfl (by repeat' (first | exact trivial | exact ⟨_, .refl _, rfl⟩ | apply And.intro)) (.cons 1 rfl rfl (.refl _) rfl (.cons 4 rfl rfl (.refl _) rfl (.cons 8 rfl rfl (.refl _) rfl (.cons 26 (b1 := .rows 2 [[.str [], .sl (cellRows (List.replicate (x + 1) awX)) false]] none) rfl rfl (.rows _ _ _ (by repeat' (first | exact trivial | exact ⟨Lent.refl _, rfl⟩ | exact ⟨Lent.norm _, rfl⟩ | exact ⟨Lent.whole rfl rfl (by first | rfl | exact List.length_append.symm | exact hlenR | simp) rfl (by first | exact .inl rfl | exact .inr rfl), rfl⟩ | apply And.intro))) rfl (.cons 90 rfl rfl (.refl _) rfl (.cons 91 rfl rfl (.refl _) rfl .nil)))))) rfl rfl (by rw [hK]; rfl)) ?_
      refine W.leG (mp := [(1, 1), (4, 4), (8, 8), (90, 90), (91, 91)]) (bo := [26]) (st' := ⟨[(1, .bp 1 0), (3, .osl 90 0 0 (tblRows (manyL [n0, n1, n2, n3, n4] k)).length (tblRows (manyL [n0, n1, n2, n3, n4] k)).length), (4, .bp 4 0), (5, .int .i64 (manyW [n0, n1, n2, n3, n4] k)), (6, .int .i64 k), (8, .bp 8 0), (9, .int .i64 (1 + (x : Int))), (18, .agg (u8Row [n0, n1, n2, n3, n4])), (19, .int .i64 k), (33, .bool false)], [(1, [.rows 5 [u8Row [n0, n1, n2, n3, n4]] none]), (4, [.rows 2 [[.int .i64 1, .osl 91 0 0 (stpRows (manyS k)).length (stpRows (manyS k)).length]] none]), (8, [.rows 3 [(manyT k x).row] none]), (90, [.rows 3 (tblRows (manyL [n0, n1, n2, n3, n4] k)) (some [])]), (91, [.rows 4 (stpRows (manyS k)) (some [])])], [1, 4, 8, 90, 91]⟩)
        (LeG.mk' rfl rfl rfl (by repeat' (first | exact trivial | exact ⟨_, .refl _, rfl⟩ | apply And.intro)) (.cons 1 rfl rfl (.refl _) rfl (.cons 4 rfl rfl (.refl _) rfl (.cons 8 (b1 := .rows 3 [(manyT k x).row] none) rfl rfl (.rows _ _ _ (by repeat' (first | exact trivial | exact ⟨Lent.refl _, rfl⟩ | exact ⟨Lent.norm _, rfl⟩ | exact ⟨Lent.whole rfl rfl (by first | rfl | exact List.length_append.symm | exact hlenR | simp) rfl (by first | exact .inl rfl | exact .inr rfl), rfl⟩ | apply And.intro))) rfl (.cons 90 rfl rfl (.refl _) rfl (.cons 91 rfl rfl (.refl _) rfl .nil))))) rfl rfl (by rw [hK]; rfl)) ?_
      repeat (first | refine gA ?_ | refine gB ?_ | refine gC rfl ?_ | refine gD rfl ?_ | ((first | refine gE env hN (by kernel_rfl) ?_ | refine gF ?_ | refine gG ?_ | refine gH fun hlen => ?_ | refine gI (by kernel_rfl) ?_ | refine gN rfl ?_ | refine gN (by omega) ?_ | refine gJ rfl ?_ | refine gK (by omega) ?_ | refine gL (by omega) ?_ | refine gK rfl ?_ | refine gO ?_); conv => whnf))
      refine ⟨⟨rowsSz_cons rfl rowsSz_nil, rfl⟩, fitsN (n := (tblRows (manyL [n0, n1, n2, n3, n4] k)).length + 1) (b := 48) (by omega) (by omega), .inl ⟨rfl, rfl, ?_⟩⟩
      conv => whnf
      rw [hWs] at hW1
      repeat (first | refine gA ?_ | refine gB ?_ | refine gC rfl ?_ | refine gD rfl ?_ | ((first | refine gE env hN (by kernel_rfl) ?_ | refine gF ?_ | refine gG ?_ | refine gH fun hlen => ?_ | refine gI (by kernel_rfl) ?_ | refine gN rfl ?_ | refine gN (by omega) ?_ | refine gJ rfl ?_ | refine gK (by omega) ?_ | refine gL (by omega) ?_ | refine gK rfl ?_ | refine gO ?_); conv => whnf))
      refine boolRes_split (fun hb => ?_) (fun hb => ?_) <;> conv => whnf
      · obtain ⟨q, rfl⟩ : ∃ q, k = q + 1 := ⟨k - 1, by omega⟩
        have hSs := manyS_snoc q
        repeat (first | refine gA ?_ | refine gB ?_ | refine gC rfl ?_ | refine gD rfl ?_ | ((first | refine gE env hN (by kernel_rfl) ?_ | refine gF ?_ | refine gG ?_ | refine gH fun hlen => ?_ | refine gI (by kernel_rfl) ?_ | refine gN rfl ?_ | refine gN (by omega) ?_ | refine gJ rfl ?_ | refine gK (by omega) ?_ | refine gL (by omega) ?_ | refine gK rfl ?_ | refine gO ?_); conv => whnf))
        refine ⟨⟨rowsSz_cons rfl rowsSz_nil, rfl⟩, fitsN (n := (stpRows (manyS (q + 1))).length + 1) (b := 32) (by omega) (by omega), .inl ⟨rfl, rfl, ?_⟩⟩
        conv => whnf
        repeat (first | refine gA ?_ | refine gB ?_ | refine gC rfl ?_ | refine gD rfl ?_ | ((first | refine gE env hN (by kernel_rfl) ?_ | refine gF ?_ | refine gG ?_ | refine gH fun hlen => ?_ | refine gI (by kernel_rfl) ?_ | refine gN rfl ?_ | refine gN (by omega) ?_ | refine gJ rfl ?_ | refine gK (by omega) ?_ | refine gL (by omega) ?_ | refine gK rfl ?_ | refine gO ?_); conv => whnf))
        refine ⟨_, _, ?_, ⟨q + 1 + 1, by omega, rfl, rfl⟩, [(1, 1), (4, 4), (90, 90), (91, 91)], [], [], ?_⟩
        · omega
        · rw [hLs, hWs, hSs, tblRows_snoc, stpRows_snoc, List.length_append, List.length_append]
          exact LeG.mk' rfl rfl rfl (by repeat' (first | exact trivial | exact ⟨_, .refl _, rfl⟩ | apply And.intro)) (.cons 1 rfl rfl (.refl _) rfl (.cons 4 rfl rfl (.refl _) rfl (.cons 90 rfl rfl (.refl _) rfl (.cons 91 rfl rfl (.refl _) rfl .nil)))) rfl rfl (by rw [hK]; rfl)
      · have hk0 : k = 0 := by omega
        subst hk0
        repeat (first | refine gA ?_ | refine gB ?_ | refine gC rfl ?_ | refine gD rfl ?_ | ((first | refine gE env hN (by kernel_rfl) ?_ | refine gF ?_ | refine gG ?_ | refine gH fun hlen => ?_ | refine gI (by kernel_rfl) ?_ | refine gN rfl ?_ | refine gN (by omega) ?_ | refine gJ rfl ?_ | refine gK (by omega) ?_ | refine gL (by omega) ?_ | refine gK rfl ?_ | refine gO ?_); conv => whnf))
        refine ⟨_, _, ?_, ⟨0 + 1, by omega, rfl, rfl⟩, [(1, 1), (4, 4), (90, 90), (91, 91)], [], [], ?_⟩
        · omega
        · rw [hLs, hWs, tblRows_snoc, List.length_append]
          exact LeG.mk' rfl rfl rfl (by repeat' (first | exact trivial | exact ⟨_, .refl _, rfl⟩ | apply And.intro)) (.cons 1 rfl rfl (.refl _) rfl (.cons 4 rfl rfl (.refl _) rfl (.cons 90 rfl rfl (.refl _) rfl (.cons 91 rfl rfl (.refl _) rfl .nil)))) rfl rfl (by rw [hK]; rfl)
  · have hke : k = 5 := by omega
    subst hke
    refine W.leG (mp := [(1, 1), (4, 4)]) (bo := [90, 91]) (st' := ⟨[(1, .bp 1 0), (3, .sl (tblRows (manyL [n0, n1, n2, n3, n4] 5)) false), (4, .bp 4 0), (5, .int .i64 (manyW [n0, n1, n2, n3, n4] 5)), (20, .bool false)], [(1, [.rows 5 [u8Row [n0, n1, n2, n3, n4]] none]), (4, [.rows 2 [(manyP 5).row] none])], [1, 4]⟩)
      (LeG.mk' rfl rfl rfl (by refine ⟨⟨_, .refl _, rfl⟩, ⟨_, Lent.whole rfl rfl rfl rfl (.inl rfl), rfl⟩, ?_⟩; repeat' (first | exact trivial | exact ⟨_, .refl _, rfl⟩ | apply And.intro)) (.cons 1 rfl rfl (.refl _) rfl (.cons 4 (b1 := .rows 2 [(manyP 5).row] none) rfl rfl (.rows _ _ _ (by repeat' (first | exact trivial | exact ⟨Lent.refl _, rfl⟩ | exact ⟨Lent.norm _, rfl⟩ | exact ⟨Lent.whole rfl rfl (by first | rfl | exact List.length_append.symm | exact hlenR | simp) rfl (by first | exact .inl rfl | exact .inr rfl), rfl⟩ | apply And.intro))) rfl .nil)) rfl rfl (by rw [hK]; rfl)) ?_
    have sp1 := report_spec (manyL [n0, n1, n2, n3, n4] 5) (manyP 5)
    have sp2 := pathEach_spec (manyL [n0, n1, n2, n3, n4] 5) (manyP 5)
    have sp3 := pathUpper_spec (manyL [n0, n1, n2, n3, n4] 5) (manyP 5)
    have sp4 := same_spec (manyR [n0, n1, n2, n3, n4]) (manyR [n0, n1, n2, n3, n4])
    rw [decide_eq_true rfl] at sp4
    have sp5 := awake32_spec
    rw [h1] at sp1
    rw [h2] at sp2
    rw [h3] at sp3
    dsimp only at sp1 sp2 sp3
    have hcl := intRows_len .i64 cs
    have hn0 : n0 < 256 := hb0 n0 (by simp)
    have hcs : cs.length = n0 + 1 := hcs
    have hq0 : 0 ≤ (manyW [n0, n1, n2, n3, n4] 5).tdiv (1 + (n0 : Int)) := Int.tdiv_nonneg (by omega) (by omega)
    have hq1 : (manyW [n0, n1, n2, n3, n4] 5).tdiv (1 + (n0 : Int)) ≤ manyW [n0, n1, n2, n3, n4] 5 := by
      rw [Int.tdiv_eq_ediv_of_nonneg (by omega)]
      exact Int.ediv_le_self _ (by omega)
    repeat (first | refine gA ?_ | refine gB ?_ | refine gC rfl ?_ | refine gD rfl ?_ | ((first | refine gE env hN (by kernel_rfl) ?_ | refine gF ?_ | refine gG ?_ | refine gH fun hlen => ?_ | refine gI (by kernel_rfl) ?_ | refine gN rfl ?_ | refine gN (by omega) ?_ | refine gJ rfl ?_ | refine gK (by omega) ?_ | refine gL (by omega) ?_ | refine gK rfl ?_ | refine gO ?_); conv => whnf))
    (refine ⟨_, _, _, callG [] [] [] rfl rfl rfl (by kernel_rfl) (sp1) (by repeat' (first | exact trivial | exact Lent.refl _ | exact Lent.norm _ | apply And.intro)) rfl ⟨rfl, rfl, rfl, rfl, rfl, trivial, rfl, rfl⟩, ?_⟩; conv => whnf)
    repeat (first | refine gA ?_ | refine gB ?_ | refine gC rfl ?_ | refine gD rfl ?_ | ((first | refine gE env hN (by kernel_rfl) ?_ | refine gF ?_ | refine gG ?_ | refine gH fun hlen => ?_ | refine gI (by kernel_rfl) ?_ | refine gN rfl ?_ | refine gN (by omega) ?_ | refine gJ rfl ?_ | refine gK (by omega) ?_ | refine gL (by omega) ?_ | refine gK rfl ?_ | refine gO ?_); conv => whnf))
    (refine ⟨_, _, _, callG [] [] [] rfl rfl rfl (by kernel_rfl) (sp2) (by repeat' (first | exact trivial | exact Lent.refl _ | exact Lent.norm _ | apply And.intro)) rfl ⟨rfl, rfl, rfl, rfl, rfl, trivial, rfl, rfl⟩, ?_⟩; conv => whnf)
    repeat (first | refine gA ?_ | refine gB ?_ | refine gC rfl ?_ | refine gD rfl ?_ | ((first | refine gE env hN (by kernel_rfl) ?_ | refine gF ?_ | refine gG ?_ | refine gH fun hlen => ?_ | refine gI (by kernel_rfl) ?_ | refine gN rfl ?_ | refine gN (by omega) ?_ | refine gJ rfl ?_ | refine gK (by omega) ?_ | refine gL (by omega) ?_ | refine gK rfl ?_ | refine gO ?_); conv => whnf))
    (refine ⟨_, _, _, callG [] [] [] rfl rfl rfl (by kernel_rfl) (sp3) (by repeat' (first | exact trivial | exact Lent.refl _ | exact Lent.norm _ | apply And.intro)) rfl ⟨rfl, rfl, rfl, rfl, rfl, trivial, rfl, rfl⟩, ?_⟩; conv => whnf)
    repeat (first | refine gA ?_ | refine gB ?_ | refine gC rfl ?_ | refine gD rfl ?_ | ((first | refine gE env hN (by kernel_rfl) ?_ | refine gF ?_ | refine gG ?_ | refine gH fun hlen => ?_ | refine gI (by kernel_rfl) ?_ | refine gN rfl ?_ | refine gN (by omega) ?_ | refine gJ rfl ?_ | refine gK (by omega) ?_ | refine gL (by omega) ?_ | refine gK rfl ?_ | refine gO ?_); conv => whnf))
    (refine ⟨_, _, _, callG [] [] [] rfl rfl rfl (by kernel_rfl) (sp4) (by repeat' (first | exact trivial | exact Lent.refl _ | exact Lent.norm _ | apply And.intro)) rfl ⟨rfl, rfl, rfl, rfl, rfl, trivial, rfl, rfl⟩, ?_⟩; conv => whnf)
    repeat (first | refine gA ?_ | refine gB ?_ | refine gC rfl ?_ | refine gD rfl ?_ | ((first | refine gE env hN (by kernel_rfl) ?_ | refine gF ?_ | refine gG ?_ | refine gH fun hlen => ?_ | refine gI (by kernel_rfl) ?_ | refine gN rfl ?_ | refine gN (by omega) ?_ | refine gJ rfl ?_ | refine gK (by omega) ?_ | refine gL (by omega) ?_ | refine gK rfl ?_ | refine gO ?_); conv => whnf))
    (refine ⟨_, _, _, callG [] [] [] rfl rfl rfl (by kernel_rfl) (sp5) (by repeat' (first | exact trivial | exact Lent.refl _ | exact Lent.norm _ | apply And.intro)) rfl ⟨rfl, rfl, rfl, rfl, rfl, trivial, rfl, rfl⟩, ?_⟩; conv => whnf)
    repeat (first | refine gA ?_ | refine gB ?_ | refine gC rfl ?_ | refine gD rfl ?_ | ((first | refine gE env hN (by kernel_rfl) ?_ | refine gF ?_ | refine gG ?_ | refine gH fun hlen => ?_ | refine gI (by kernel_rfl) ?_ | refine gN rfl ?_ | refine gN (by omega) ?_ | refine gJ rfl ?_ | refine gK (by omega) ?_ | refine gL (by omega) ?_ | refine gK rfl ?_ | refine gO ?_ | refine gM ?_); conv => whnf))
    exact ret0 rfl rfl rfl
end Go.Sx.Sp
namespace Go.Sx.Sp
open Go Go.Sx Go.Proofs
attribute [local irreducible] GoodW famL
def fitC (a b : Cell) : Bool := !a.null && (!b.null && decide (a.text = b.text))
def sumTo (n : Nat) (f : Nat → Int) : Int := ((List.range n).map f).sum
theorem sumTo_succ (n : Nat) (f : Nat → Int) : sumTo (n + 1) f = sumTo n f + f n := by simp [sumTo, List.range_succ]
theorem sumTo_congr {n : Nat} {f g : Nat → Int} (h : ∀ y, y < n → f y = g y) : sumTo n f = sumTo n g := by
  unfold sumTo
  rw [List.map_congr_left fun y hy => h y (List.mem_range.1 hy)]
theorem sumTo_const (n : Nat) (c : Int) : sumTo n (fun _ => c) = n * c := by
  induction n with
  | zero => simp [sumTo]
  | succ n ih => rw [sumTo_succ, ih, Int.natCast_add, Int.add_mul]; simp
theorem look_talR (t : Table) (own : Nat) (cnt : Nat → Int) (s : Str) : ∀ n, lookT (talR t own cnt n) s = sumTo n fun y => if (!(cellT t own y).null && decide ((cellT t own y).text = s)) = true then cnt y else 0
  | 0 => rfl
  | n + 1 => by
    have ih := look_talR t own cnt s n
    have e : talR t own cnt (n + 1) = if (cellT t own n).null = true then talR t own cnt n else addT (talR t own cnt n) (cellT t own n).text (cnt n) := rfl
    rw [sumTo_succ, ← ih, e]
    clear e
    cases hn : (cellT t own n).null with
    | true => simp
    | false =>
      rw [if_neg (by decide), lookT_add, Bool.not_false, Bool.true_and]
      by_cases e : s = (cellT t own n).text
      · subst e; simp
      · rw [if_neg e, if_neg (fun h => e (of_decide_eq_true h).symm)]; omega
section
variable (l : List Table) (p : Pth)
def tabN (i : Nat) : Table := (nodeAt l p p.steps.length i).t
def frN (i : Nat) : Nat := (nodeAt l p p.steps.length i).fr
def ownN (i : Nat) : Nat := (nodeAt l p p.steps.length i).own
def cntI (i r : Nat) : Int := (cntsN l p i).getD r 0
def fitS (k : Nat) (c : Cell) : Int := sumTo (rowsN (tabN l p k)) fun y => if fitC c (cellT (tabN l p k) (ownN l p k) y) = true then cntI l p k y else 0
end
theorem foldl_kids {α : Type} (f g : α → Nat → α) : ∀ (l : List Nat) (x : α), (∀ k ∈ l, ∀ x, f x k = g x k) → l.foldl f x = l.foldl g x
  | [], x, _ => rfl
  | k :: l, x, h => by
    rw [List.foldl_cons, List.foldl_cons, h k (by simp)]
    exact foldl_kids f g l _ fun k hk => h k (by simp [hk])
theorem cntI_eq {l : List Table} {p : Pth} {i r : Nat} (hi : i ≤ p.steps.length) (hr : r < rowsN (tabN l p i)) :
    cntI l p i r = (kidsL p p.steps.length i).foldl (fun x k => x * fitS l p k (cellT (tabN l p i) (frN l p k) r)) 1 := by
  unfold cntI cntsN
  have hr' : r < rowsN (nodeAt l p p.steps.length i).t := hr
  rw [List.getD_eq_getElem?_getD, List.getElem?_map, List.getElem?_range hr']
  simp only [Option.map_some, Option.getD_some]
  unfold cntR kidsOf
  rw [nodeAt_kids, List.foldl_map]
  refine foldl_kids _ _ _ _ fun k hk x => ?_
  obtain ⟨q, g1, g2, rfl⟩ := kidsL_mem.1 hk
  have hg := plan_get l p (i := q + 1) (by omega)
  rw [List.getD_eq_getElem?_getD, hg]
  simp only [Option.getD_some]
  unfold mulK fitS Nod.tal
  simp only
  show (if (cellT (tabN l p i) (frN l p (q + 1)) r).null = true then 0 else x * lookT (talsN l p (q + 1)) (cellT (tabN l p i) (frN l p (q + 1)) r).text) = _
  generalize cellT (tabN l p i) (frN l p (q + 1)) r = c
  cases hn : c.null with
  | true =>
    have h0 : ∀ y, fitC c (cellT (tabN l p (q + 1)) (ownN l p (q + 1)) y) = false := fun y => by unfold fitC; rw [hn]; rfl
    simp only [h0]
    have := sumTo_const (rowsN (tabN l p (q + 1))) 0
    rw [Int.mul_zero] at this
    simp [this]
  | false =>
    rw [if_neg (by decide)]
    congr 1
    unfold talsN
    rw [if_neg (by omega), look_talR]
    refine sumTo_congr fun y hy => ?_
    have hy' : y < rowsN (nodeAt l p p.steps.length (q + 1)).t := hy
    unfold fitC cntI cntsN
    rw [hn, List.getD_eq_getElem?_getD, List.getElem?_map, List.getElem?_range hy']
    simp only [Option.map_some, Option.getD_some, Bool.not_false, Bool.true_and]
    have e : decide ((cellT (nodeAt l p p.steps.length (q + 1)).t (nodeAt l p p.steps.length (q + 1)).own y).text = c.text) = decide (c.text = (cellT (tabN l p (q + 1)) (ownN l p (q + 1)) y).text) := decide_eq_decide.2 eq_comm
    rw [e]; rfl
end Go.Sx.Sp
namespace Go.Sx.Sp
open Go Go.Sx Go.Proofs
attribute [local irreducible] GoodW famL
theorem hasU_ins (U : Nat → Option (List Str)) (k : Nat) (t : Str) (k' : Nat) (s : Str) : hasU (insU U k t) k' s = true ↔ hasU U k' s = true ∨ (k' = k ∧ s = t) := by
  unfold hasU insU
  by_cases e : k' = k
  · subst e
    simp only [if_true]
    cases hU : U k' with
    | none =>
      have := addS_mem (l := []) (s := t) (u := s)
      simp at this
      simp [this]
    | some l =>
      have := addS_mem (l := l) (s := t) (u := s)
      simp [this]
  · simp [e]
theorem hasU_kids (R : List Nod) (n : Nod) (r k : Nat) (s : Str) (U : Nat → Option (List Str)) : ∀ j, j ≤ n.kids.length → (hasU (kidsU R n r U j) k s = true ↔ hasU U k s = true ∨ (k ∈ n.kids.take j ∧ s = (cellT n.t (R.getD k n).fr r).text))
  | 0, _ => by simp [kidsU]
  | j + 1, h => by
    have ih := hasU_kids R n r k s U j (by omega)
    rw [kidsU_snoc R n r U (show j < n.kids.length by omega), hasU_ins, ih, List.take_succ_eq_append_getElem (show j < n.kids.length by omega), List.mem_append]
    constructor
    · rintro ((h1 | h1) | ⟨rfl, h1⟩)
      · exact .inl h1
      · exact .inr ⟨.inl h1.1, h1.2⟩
      · exact .inr ⟨.inr (by simp), h1⟩
    · rintro (h1 | ⟨h1 | h1, h2⟩)
      · exact .inl (.inl h1)
      · exact .inl (.inr ⟨h1, h2⟩)
      · have h1 := List.mem_singleton.1 h1
        subst h1
        exact .inr ⟨rfl, h2⟩
section
variable (l : List Table) (p : Pth)
def setsN (i : Nat) : Nat → Option (List Str) := (nodesU (planN l p) i).2
def nodN (i : Nat) : Nod := { nodeAt l p p.steps.length i with done := some (cntsN l p i, talsN l p i) }
def usedB (i r : Nat) : Bool := !skipR (setsN l p i) i (nodN l p i) (cntsN l p i) r
def unuN (i : Nat) : Int := sumTo (rowsN (tabN l p i)) fun r => if usedB l p i r = true then 0 else 1
end
section
variable {l : List Table} {p : Pth}
theorem skipR_congr {U U' : Nat → Option (List Str)} {i : Nat} {n : Nod} {c : List Int} {r : Nat} (h : ∀ s, hasU U i s = true ↔ hasU U' i s = true) : skipR U i n c r = skipR U' i n c r := by
  unfold skipR
  have : hasU U i (cellT n.t n.own r).text = hasU U' i (cellT n.t n.own r).text := Bool.eq_iff_iff.2 (h _)
  rw [this]
theorem nodN_kids (i : Nat) : (nodN l p i).kids = kidsL p p.steps.length i := nodeAt_kids l p _ i
theorem rowsU_char {i : Nat} (hi : i ≤ p.steps.length) : ∀ r, (rowsU (planN l p) i (nodN l p i) (cntsN l p i) (setsN l p i) r).unused = sumTo r (fun x => if usedB l p i x = true then 0 else 1) ∧
    ∀ k s, hasU (rowsU (planN l p) i (nodN l p i) (cntsN l p i) (setsN l p i) r).U k s = true ↔ hasU (setsN l p i) k s = true ∨ (k ∈ kidsL p p.steps.length i ∧ ∃ x, x < r ∧ usedB l p i x = true ∧ s = (cellT (tabN l p i) (frN l p k) x).text)
  | 0 => by
    refine ⟨rfl, fun k s => ?_⟩
    simp [rowsU]
  | r + 1 => by
    obtain ⟨ih1, ih2⟩ := rowsU_char hi r
    have hii : ∀ s, hasU (rowsU (planN l p) i (nodN l p i) (cntsN l p i) (setsN l p i) r).U i s = true ↔ hasU (setsN l p i) i s = true := fun s => by
      rw [ih2]
      constructor
      · rintro (h | ⟨h, _⟩)
        · exact h
        · obtain ⟨q, g1, g2, g3⟩ := kidsL_mem.1 h
          have := parI_le p (i := q) (by omega)
          omega
      · exact .inl
    rw [rowsU_snoc, sumTo_succ, ← ih1]
    unfold rowU
    rw [skipR_congr hii]
    have hu : usedB l p i r = !skipR (setsN l p i) i (nodN l p i) (cntsN l p i) r := rfl
    cases hs : skipR (setsN l p i) i (nodN l p i) (cntsN l p i) r with
    | true =>
      rw [hs] at hu
      have hu : usedB l p i r = false := hu
      rw [if_pos rfl, if_neg (by rw [hu]; decide)]
      refine ⟨rfl, fun k s => ?_⟩
      rw [show (US.mk ((rowsU (planN l p) i (nodN l p i) (cntsN l p i) (setsN l p i) r).unused + 1) (rowsU (planN l p) i (nodN l p i) (cntsN l p i) (setsN l p i) r).U).U = (rowsU (planN l p) i (nodN l p i) (cntsN l p i) (setsN l p i) r).U from rfl, ih2]
      constructor
      · rintro (h | ⟨h1, x, h2, h3⟩)
        · exact .inl h
        · exact .inr ⟨h1, x, by omega, h3⟩
      · rintro (h | ⟨h1, x, h2, h3, h4⟩)
        · exact .inl h
        · have : x ≠ r := fun e => by subst e; rw [hu] at h3; cases h3
          exact .inr ⟨h1, x, by omega, h3, h4⟩
    | false =>
      rw [hs] at hu
      have hu : usedB l p i r = true := hu
      rw [if_neg (by decide), if_pos hu]
      refine ⟨by simp, fun k s => ?_⟩
      rw [show (US.mk (rowsU (planN l p) i (nodN l p i) (cntsN l p i) (setsN l p i) r).unused (kidsU (planN l p) (nodN l p i) r (rowsU (planN l p) i (nodN l p i) (cntsN l p i) (setsN l p i) r).U (nodN l p i).kids.length)).U = kidsU (planN l p) (nodN l p i) r (rowsU (planN l p) i (nodN l p i) (cntsN l p i) (setsN l p i) r).U (nodN l p i).kids.length from rfl,
        hasU_kids _ _ _ _ _ _ _ (Nat.le_refl _), ih2, List.take_length, nodN_kids]
      have hfr : k ∈ kidsL p p.steps.length i → (cellT (nodN l p i).t ((planN l p).getD k (nodN l p i)).fr r).text = (cellT (tabN l p i) (frN l p k) r).text := fun hk => by
        obtain ⟨q, g1, g2, rfl⟩ := kidsL_mem.1 hk
        have hg := plan_get l p (i := q + 1) (by omega)
        rw [List.getD_eq_getElem?_getD, hg]; rfl
      constructor
      · rintro ((h | ⟨h1, x, h2, h3⟩) | ⟨h1, h2⟩)
        · exact .inl h
        · exact .inr ⟨h1, x, by omega, h3⟩
        · exact .inr ⟨h1, r, by omega, hu, by rw [h2, hfr h1]⟩
      · rintro (h | ⟨h1, x, h2, h3, h4⟩)
        · exact .inl (.inl h)
        · by_cases e : x = r
          · subst e
            exact .inr ⟨h1, by rw [hfr h1]; exact h4⟩
          · exact .inl (.inr ⟨h1, x, by omega, h3, h4⟩)
theorem nodesU_step {i : Nat} (hi : i ≤ p.steps.length) : nodesU (planN l p) (i + 1) = (if 0 < i then (nodesU (planN l p) i).1 ++ [unuN l p i] else (nodesU (planN l p) i).1, (rowsU (planN l p) i (nodN l p i) (cntsN l p i) (setsN l p i) (rowsN (tabN l p i))).U) := by
  have hg : (planN l p)[i]? = some (nodN l p i) := plan_get l p hi
  have hc : cntD (nodN l p i) = cntsN l p i := rfl
  have hlen : (cntsN l p i).length = rowsN (tabN l p i) := cntsN_len l p i
  have hu := (rowsU_char (l := l) hi (rowsN (tabN l p i))).1
  simp only [nodesU, hg, hc, hlen]
  unfold unuN
  rw [← hu]; rfl
theorem setsN_char : ∀ i, i ≤ p.steps.length + 1 → ∀ q, q < p.steps.length → ∀ s, hasU (setsN l p i) (q + 1) s = true ↔ parI p q < i ∧ ∃ x, x < rowsN (tabN l p (parI p q)) ∧ usedB l p (parI p q) x = true ∧ s = (cellT (tabN l p (parI p q)) (frN l p (q + 1)) x).text
  | 0, _, q, hq, s => by
    have : setsN l p 0 = fun _ => none := rfl
    rw [this]
    simp [hasU]
  | i + 1, hi, q, hq, s => by
    have ih := setsN_char i (by omega) q hq s
    have hs : setsN l p (i + 1) = (rowsU (planN l p) i (nodN l p i) (cntsN l p i) (setsN l p i) (rowsN (tabN l p i))).U := by
      show (nodesU (planN l p) (i + 1)).2 = _
      rw [nodesU_step (by omega)]
    rw [hs, (rowsU_char (l := l) (p := p) (by omega) _).2, ih]
    constructor
    · rintro (⟨h1, h2⟩ | ⟨h1, h2⟩)
      · exact ⟨by omega, h2⟩
      · obtain ⟨q', g1, g2, g3⟩ := kidsL_mem.1 h1
        have : q' = q := by omega
        subst this
        subst g2
        exact ⟨by omega, h2⟩
    · rintro ⟨h1, h2⟩
      by_cases e : parI p q = i
      · subst e
        exact .inr ⟨kidsL_mem.2 ⟨q, hq, rfl, rfl⟩, h2⟩
      · exact .inl ⟨by omega, h2⟩
theorem nodesU_list : ∀ i, i ≤ p.steps.length → (nodesU (planN l p) (i + 1)).1 = (List.range i).map fun q => unuN l p (q + 1)
  | 0, h => by rw [nodesU_step (Nat.zero_le _)]; rfl
  | i + 1, h => by
    have ih := nodesU_list i (by omega)
    rw [nodesU_step h, List.range_succ, List.map_append, ← ih]
    simp
theorem foldl_ne (f : Nat → Int) : ∀ (l : List Nat) (x : Int), l.foldl (fun x k => x * f k) x ≠ 0 ↔ x ≠ 0 ∧ ∀ k ∈ l, f k ≠ 0
  | [], x => by simp
  | k :: l, x => by
    rw [List.foldl_cons, foldl_ne f l, Int.mul_ne_zero_iff]
    simp [and_assoc]
theorem cntI_ne {i r : Nat} (hi : i ≤ p.steps.length) (hr : r < rowsN (tabN l p i)) : cntI l p i r ≠ 0 ↔ ∀ q, q < p.steps.length → parI p q = i → fitS l p (q + 1) (cellT (tabN l p i) (frN l p (q + 1)) r) ≠ 0 := by
  rw [cntI_eq hi hr, foldl_ne (fun k => fitS l p k (cellT (tabN l p i) (frN l p k) r))]
  constructor
  · rintro ⟨_, h⟩ q hq rfl
    exact h _ (kidsL_mem.2 ⟨q, hq, rfl, rfl⟩)
  · intro h
    refine ⟨by decide, fun k hk => ?_⟩
    obtain ⟨q, g1, g2, rfl⟩ := kidsL_mem.1 hk
    exact h q g1 g2
theorem fitS_null {k : Nat} {c : Cell} (h : c.null = true) : fitS l p k c = 0 := by
  unfold fitS
  have h0 : ∀ y, fitC c (cellT (tabN l p k) (ownN l p k) y) = false := fun y => by unfold fitC; rw [h]; rfl
  simp only [h0]
  have := sumTo_const (rowsN (tabN l p k)) 0
  rw [Int.mul_zero] at this
  simp [this]
theorem usedB_zero (r : Nat) : usedB l p 0 r = true ↔ cntI l p 0 r ≠ 0 := by
  unfold usedB skipR
  simp [cntI]
theorem usedB_cnt {i r : Nat} (h : usedB l p i r = true) : cntI l p i r ≠ 0 := by
  unfold usedB skipR at h
  intro h0
  unfold cntI at h0
  rw [h0] at h
  simp at h
theorem usedB_succ {q y : Nat} (hq : q < p.steps.length) : usedB l p (q + 1) y = true ↔ cntI l p (q + 1) y ≠ 0 ∧ ∃ x, x < rowsN (tabN l p (parI p q)) ∧ usedB l p (parI p q) x = true ∧ fitC (cellT (tabN l p (parI p q)) (frN l p (q + 1)) x) (cellT (tabN l p (q + 1)) (ownN l p (q + 1)) y) = true := by
  have hc := setsN_char (l := l) (p := p) (q + 1) (by omega) q hq (cellT (tabN l p (q + 1)) (ownN l p (q + 1)) y).text
  have hpar := parI_le p (i := q) (by omega)
  have e : usedB l p (q + 1) y = (!(decide (cntI l p (q + 1) y = 0) || (cellT (tabN l p (q + 1)) (ownN l p (q + 1)) y).null || !hasU (setsN l p (q + 1)) (q + 1) (cellT (tabN l p (q + 1)) (ownN l p (q + 1)) y).text)) := by
    unfold usedB skipR
    rw [decide_eq_true (show 0 < q + 1 by omega), Bool.true_and, ← Bool.or_assoc]
    rfl
  rw [e]
  constructor
  · intro h
    simp only [Bool.not_or, Bool.and_eq_true, Bool.not_eq_true', decide_eq_false_iff_not, Bool.not_not] at h
    obtain ⟨⟨h1, h2⟩, h3⟩ := h
    obtain ⟨_, x, g1, g2, g3⟩ := hc.1 h3
    refine ⟨h1, x, g1, g2, ?_⟩
    have hne := (cntI_ne (by omega) g1).1 (usedB_cnt g2) q hq rfl
    have hnn : (cellT (tabN l p (parI p q)) (frN l p (q + 1)) x).null = false := by
      cases hn : (cellT (tabN l p (parI p q)) (frN l p (q + 1)) x).null with
      | false => rfl
      | true => exact absurd (fitS_null hn) hne
    unfold fitC
    rw [hnn, h2, decide_eq_true g3.symm]; rfl
  · rintro ⟨h1, x, g1, g2, g3⟩
    unfold fitC at g3
    simp only [Bool.and_eq_true, Bool.not_eq_true', decide_eq_true_eq] at g3
    have h3 := hc.2 ⟨by omega, x, g1, g2, g3.2.2.symm⟩
    rw [h3, g3.2.1, decide_eq_false h1]; rfl
end
end Go.Sx.Sp
namespace Go.Sx.Sp
open Go Go.Sx Go.Proofs
attribute [local irreducible] GoodW famL
theorem many_par {q : Nat} (h : q < 4) : parI (manyP 5) q = q := by
  match q, h with
  | 0, _ => decide +kernel
  | 1, _ => decide +kernel
  | 2, _ => decide +kernel
  | 3, _ => decide +kernel
theorem many_kids {i : Nat} (h : i ≤ 4) : kidsL (manyP 5) 4 i = if i < 4 then [i + 1] else [] := by
  match i, h with
  | 0, _ => decide +kernel
  | 1, _ => decide +kernel
  | 2, _ => decide +kernel
  | 3, _ => decide +kernel
  | 4, _ => decide +kernel
theorem many_find (n : List Nat) {k : Nat} (h : k < 5) : findT (manyL n 5) (k + 1 : Nat) = some (manyT k (n.getD k 0)) := by
  match k, h with
  | 0, _ => rfl
  | 1, _ => rfl
  | 2, _ => rfl
  | 3, _ => rfl
  | 4, _ => rfl
theorem many_tab (n : List Nat) {i : Nat} (h : i ≤ 4) : tabN (manyL n 5) (manyP 5) i = manyT i (n.getD i 0) := by
  have e : ∀ k, k < 5 → tabOf (manyL n 5) (k + 1 : Nat) = manyT k (n.getD k 0) := fun k hk => by unfold tabOf; rw [many_find n hk]; rfl
  match i, h with
  | 0, _ => exact e 0 (by decide)
  | 1, _ => exact e 1 (by decide)
  | 2, _ => exact e 2 (by decide)
  | 3, _ => exact e 3 (by decide)
  | 4, _ => exact e 4 (by decide)
theorem many_cols (n : List Nat) {i : Nat} (h : i ≤ 4) : frN (manyL n 5) (manyP 5) i = 0 ∧ ownN (manyL n 5) (manyP 5) i = 0 := by
  match i, h with
  | 0, _ => exact ⟨rfl, rfl⟩
  | 1, _ => exact ⟨rfl, rfl⟩
  | 2, _ => exact ⟨rfl, rfl⟩
  | 3, _ => exact ⟨rfl, rfl⟩
  | 4, _ => exact ⟨rfl, rfl⟩
theorem manyT_rows (i m : Nat) : rowsN (manyT i m) = m + 1 := by simp [manyT, rowsN]
theorem manyT_cell {i m r : Nat} (h : r < m + 1) : cellT (manyT i m) 0 r = awX := by
  unfold cellT manyT
  simp [List.getElem?_replicate, h]
theorem many_valid {n : List Nat} (hb : ∀ x ∈ n, x < 256) : validE (manyL n 5) (manyP 5) = 0 := by
  have hx : ∀ k, n.getD k 0 < 256 := fun k => by
    rw [List.getD_eq_getElem?_getD]
    cases e : n[k]? with
    | none => simp
    | some x => exact hb x (List.mem_of_getElem? e)
  have hv : ∀ i m, i < 5 → m < 256 → validB (manyT i m) = true := fun i m hi hm => by
    unfold validB
    have h1 : headB (manyT i m) = true := by
      unfold headB
      rw [manyT_rows]
      have h1 : decide ((0 : Int) ≤ (manyT i m).id ∧ (manyT i m).id ≤ 1073741824) = true := decide_eq_true ⟨by simp [manyT]; omega, by simp [manyT]; omega⟩
      have h2 : fineB (manyT i m).name = true := by show fineB [] = true; decide +kernel
      have h3 : decide ((manyT i m).cols.length ≤ 64) = true := by simp [manyT]
      rw [h1, h2, h3, decide_eq_true (show m + 1 ≤ 4096 by omega)]; rfl
    have h2 : badCol (manyT i m) ⟨[], List.replicate (m + 1) awX⟩ = false := by
      unfold badCol
      rw [manyT_rows]
      have h2 : fineB [] = true := by decide +kernel
      have h3 : cellB awX = true := by decide +kernel
      have h4 : (List.replicate (m + 1) awX).all cellB = true := by
        rw [List.all_eq_true]
        intro c hc
        rw [(List.mem_replicate.1 hc).2, h3]
      simp [h2, h4]
    rw [h1]
    have : (manyT i m).cols = [⟨[], List.replicate (m + 1) awX⟩] := rfl
    rw [this, List.any_cons, h2]; rfl
  have h1 : listB (manyL n 5) = true := by
    unfold listB
    have h2 : ascB (manyL n 5) = true := by
      show ascB [manyT 0 _, manyT 1 _, manyT 2 _, manyT 3 _, manyT 4 _] = true
      rfl
    have h3 : (manyL n 5).all validB = true := by
      rw [List.all_eq_true]
      intro t ht
      unfold manyL at ht
      obtain ⟨i, hi, rfl⟩ := List.mem_map.1 ht
      exact hv i _ (List.mem_range.1 hi) (hx i)
    rw [h2, h3, manyL_len]; rfl
  have h2 : pathB (manyL n 5) (manyP 5) = true := by
    refine pathB_true ?_ fun j hj => ?_
    · rw [show (manyP 5).start = ((0 + 1 : Nat) : Int) from rfl, many_find n (by decide)]; rfl
    · have hg : ∀ k, k < 5 → (getC (manyL n 5) (k + 1 : Nat) 0).isSome = true := fun k hk => by
        unfold getC
        rw [many_find n hk]; rfl
      have hj : j < 4 := hj
      match j, hj with
      | 0, _ => show ((getC (manyL n 5) (0 + 1 : Nat) 0).isSome && ((getC (manyL n 5) (1 + 1 : Nat) 0).isSome && _)) = true; rw [hg 0 (by decide), hg 1 (by decide)]; rfl
      | 1, _ => show ((getC (manyL n 5) (1 + 1 : Nat) 0).isSome && ((getC (manyL n 5) (2 + 1 : Nat) 0).isSome && _)) = true; rw [hg 1 (by decide), hg 2 (by decide)]; rfl
      | 2, _ => show ((getC (manyL n 5) (2 + 1 : Nat) 0).isSome && ((getC (manyL n 5) (3 + 1 : Nat) 0).isSome && _)) = true; rw [hg 2 (by decide), hg 3 (by decide)]; rfl
      | 3, _ => show ((getC (manyL n 5) (3 + 1 : Nat) 0).isSome && ((getC (manyL n 5) (4 + 1 : Nat) 0).isSome && _)) = true; rw [hg 3 (by decide), hg 4 (by decide)]; rfl
  unfold validE
  rw [if_pos h1, if_pos (by decide), if_pos h2]
def behind (n : List Nat) : Nat → Int
  | 0 => 1
  | k + 1 => (1 + (n.getD (4 - k) 0 : Int)) * behind n k
theorem fitC_x : fitC awX awX = true := by decide
theorem many_cnt (n : List Nat) : ∀ k, k ≤ 4 → ∀ r, r < n.getD (4 - k) 0 + 1 → cntI (manyL n 5) (manyP 5) (4 - k) r = behind n k
  | 0, _, r, hr => by
    rw [cntI_eq (by decide) (by rw [many_tab n (by omega), manyT_rows]; exact hr)]
    rw [show (manyP 5).steps.length = 4 from rfl, many_kids (by omega)]; rfl
  | k + 1, hk, r, hr => by
    have ih := many_cnt n k (by omega)
    have hi : 4 - k = 4 - (k + 1) + 1 := by omega
    rw [hi] at ih
    simp only [behind]
    rw [hi]
    generalize 4 - (k + 1) = i at *
    have hi4 : i < 4 := by omega
    rw [cntI_eq (by show i ≤ 4; omega) (by rw [many_tab n (by omega), manyT_rows]; exact hr), show (manyP 5).steps.length = 4 from rfl, many_kids (by omega), if_pos hi4]
    simp only [List.foldl_cons, List.foldl_nil, Int.one_mul]
    unfold fitS
    rw [many_tab n (show i ≤ 4 by omega), many_tab n (show i + 1 ≤ 4 by omega), (many_cols n (show i + 1 ≤ 4 by omega)).1, (many_cols n (show i + 1 ≤ 4 by omega)).2, manyT_rows, manyT_cell hr]
    rw [sumTo_congr (g := fun _ => behind n k), sumTo_const]
    · congr 1; omega
    · intro y hy
      rw [manyT_cell hy, if_pos fitC_x, ih y hy]
theorem behind_pos (n : List Nat) : ∀ k, 1 ≤ behind n k
  | 0 => Int.le_refl _
  | k + 1 => by
    have := behind_pos n k
    simp only [behind]
    have h := Int.mul_le_mul (a := 1) (b := 1) (c := 1 + (n.getD (4 - k) 0 : Int)) (d := behind n k) (by omega) this (by omega) (by omega)
    simpa using h
theorem many_W (n : List Nat) : manyW n 5 = (1 + (n.getD 0 0 : Int)) * behind n 4 := by
  simp only [manyW, behind, Int.one_mul]
  generalize 1 + (n.getD 0 0 : Int) = a
  generalize 1 + (n.getD 1 0 : Int) = b
  generalize 1 + (n.getD 2 0 : Int) = c
  generalize 1 + (n.getD 3 0 : Int) = d
  generalize 1 + (n.getD (4 - 0) 0 : Int) = e
  simp only [Int.mul_one, Int.mul_assoc]
theorem many_used (n : List Nat) : ∀ i, i ≤ 4 → ∀ r, r < n.getD i 0 + 1 → usedB (manyL n 5) (manyP 5) i r = true
  | 0, _, r, hr => by
    have := many_cnt n 4 (by omega) r hr
    have := behind_pos n 4
    rw [usedB_zero, show (0 : Nat) = 4 - 4 from rfl]
    omega
  | i + 1, hi, r, hr => by
    have ih := many_used n i (by omega) 0 (by omega)
    have hc := many_cnt n (4 - (i + 1)) (by omega) r (by rw [show 4 - (4 - (i + 1)) = i + 1 by omega]; exact hr)
    rw [show 4 - (4 - (i + 1)) = i + 1 by omega] at hc
    have := behind_pos n (4 - (i + 1))
    rw [usedB_succ (by show i < 4; omega), many_par (by omega)]
    refine ⟨by omega, 0, ?_, ih, ?_⟩
    · rw [many_tab n (by omega), manyT_rows]; omega
    · rw [many_tab n (show i ≤ 4 by omega), many_tab n (show i + 1 ≤ 4 by omega), (many_cols n (show i + 1 ≤ 4 by omega)).1, (many_cols n (show i + 1 ≤ 4 by omega)).2, manyT_cell (by omega), manyT_cell hr]
      exact fitC_x
theorem many_unu (n : List Nat) {i : Nat} (h : i ≤ 4) : unuN (manyL n 5) (manyP 5) i = 0 := by
  unfold unuN
  rw [many_tab n h, manyT_rows, sumTo_congr (g := fun _ => 0), sumTo_const]
  · simp
  · intro r hr
    rw [if_pos (many_used n i h r hr)]
theorem many_each (n : List Nat) : cntsN (manyL n 5) (manyP 5) 0 = List.replicate (n.getD 0 0 + 1) (behind n 4) := by
  have hlen : (cntsN (manyL n 5) (manyP 5) 0).length = n.getD 0 0 + 1 := by
    rw [cntsN_len]
    show rowsN (tabN (manyL n 5) (manyP 5) 0) = _
    rw [many_tab n (by omega), manyT_rows]
  refine List.ext_getElem (by rw [hlen, List.length_replicate]) fun r h1 h2 => ?_
  have := many_cnt n 4 (by omega) r (by rw [hlen] at h1; exact h1)
  unfold cntI at this
  rw [List.getD_eq_getElem?_getD, show 4 - 4 = 0 from rfl, List.getElem?_eq_getElem h1] at this
  rw [List.getElem_replicate]
  exact this
theorem repL_const (un : List Int) (c : Int) (hc : 1 ≤ c) : ∀ m, repL un (List.replicate (m + 1) c) = ⟨(1 + (m : Int)) * c, 0, c, un⟩
  | 0 => by
    simp [repL, repStep, show ¬ c = 0 by omega]; omega
  | m + 1 => by
    have ih := repL_const un c hc m
    unfold repL at *
    rw [List.replicate_succ', List.foldl_append, ih]
    show repStep ⟨(1 + (m : Int)) * c, 0, c, un⟩ c = _
    unfold repStep
    have e : (1 + ((m + 1 : Nat) : Int)) * c = (1 + (m : Int)) * c + c := by
      rw [show (1 + ((m + 1 : Nat) : Int)) = (1 + (m : Int)) + 1 by omega, Int.add_mul, Int.one_mul]
    rw [e, if_neg (show ¬ c = 0 by omega)]
    simp only [Int.max_self]
theorem many_div (n : List Nat) : (manyW n 5).tdiv (1 + (n.getD 0 0 : Int)) = behind n 4 := by
  rw [many_W]
  exact Int.mul_tdiv_cancel_left _ (by omega)
theorem many_rep {n : List Nat} (hb : ∀ x ∈ n, x < 256) : repE (manyL n 5) (manyP 5) = (manyR n, 0) := by
  unfold repE
  rw [if_pos (many_valid hb)]
  have h1 := nodesU_list (l := manyL n 5) (p := manyP 5) 4 (Nat.le_refl _)
  have h2 : (List.range 4).map (fun q => unuN (manyL n 5) (manyP 5) (q + 1)) = [0, 0, 0, 0] := by
    show [unuN (manyL n 5) (manyP 5) 1, unuN (manyL n 5) (manyP 5) 2, unuN (manyL n 5) (manyP 5) 3, unuN (manyL n 5) (manyP 5) 4] = _
    rw [many_unu n (by omega), many_unu n (by omega), many_unu n (by omega), many_unu n (by omega)]
  rw [show (manyP 5).steps.length = 4 from rfl, h1, h2, many_each, repL_const _ _ (behind_pos n 4)]
  unfold manyR
  rw [many_div, many_W]
theorem cnt_many (m : Nat) : cntC (List.replicate m awX) = if m = 0 then [] else [(awX.text, (m : Int))] := by
  induction m with
  | zero => rfl
  | succ m ih =>
    unfold cntC at *
    rw [List.replicate_succ', List.foldl_append, ih]
    by_cases h : m = 0
    · subst h; rfl
    · rw [if_neg h, if_neg (by omega)]
      show addT [(awX.text, (m : Int))] awX.text 1 = _
      unfold addT
      simp [keysT, ixS, lookT]
end Go.Sx.Sp
namespace Go.Sx.Sp
open Go Go.Sx Go.Proofs
attribute [local irreducible] GoodW famL
theorem most_one (s : Str) (m k : Nat) (rows : Int) : (agM [(s, ((m + 1 : Nat) : Int))] [(s, ((k + 1 : Nat) : Int))] rows).most = (m + 1 : Nat) := by
  have h : hitI [(s, ((m + 1 : Nat) : Int))] [(s, ((k + 1 : Nat) : Int))] 0 = true := by
    unfold hitI lookT
    simp [keysT, ixS]
  show (agS [(s, ((m + 1 : Nat) : Int))] [(s, ((k + 1 : Nat) : Int))] ⟨0, 0, rows⟩ 0).most = _
  unfold agS
  rw [if_pos h]
  show max 0 ((m + 1 : Nat) : Int) = _
  omega
theorem many_vT {n : List Nat} (hb : ∀ x ∈ n, x < 256) {i : Nat} (h : i < 5) : validB (manyT i (n.getD i 0)) = true := by
  have hv := (valid_path (many_valid hb)).1
  refine listB_valid hv _ ?_
  unfold manyL
  exact List.mem_map.2 ⟨i, List.mem_range.2 h, rfl⟩
theorem many_most {n : List Nat} (hb : ∀ x ∈ n, x < 256) {j : Nat} (h : j < 4) : mostB (relS (manyL n 5) (manyP 5) j) = 1 + (n.getD (j + 1) 0 : Int) := by
  have hst : stpAt (manyP 5) j = manySt (j + 1) := by
    match j, h with
    | 0, _ => rfl
    | 1, _ => rfl
    | 2, _ => rfl
    | 3, _ => rfl
  have e : ∀ k, k < 5 → tabOf (manyL n 5) (k + 1 : Nat) = manyT k (n.getD k 0) := fun k hk => by unfold tabOf; rw [many_find n hk]; rfl
  unfold relS
  rw [hst]
  show mostB (ofE (tabOf (manyL n 5) ((j + 1 : Nat) : Int)) 0 (tabOf (manyL n 5) ((j + 1 + 1 : Nat) : Int)) 0).1 = _
  rw [e j (by omega), e (j + 1) (by omega)]
  unfold ofE
  rw [if_neg (fun h => h ⟨many_vT hb (by omega), many_vT hb (by omega)⟩), if_neg (fun h => h ⟨by omega, by show (0 : Int) < 1; decide, by omega, by show (0 : Int) < 1; decide⟩)]
  unfold relL
  show (agM (cntC (List.replicate (n.getD (j + 1) 0 + 1) awX)) (cntC (List.replicate (n.getD j 0 + 1) awX)) _).most = _
  rw [cnt_many, cnt_many, if_neg (by omega), if_neg (by omega), most_one]
  omega
theorem many_upper {n : List Nat} (hb : ∀ x ∈ n, x < 256) : upperE (manyL n 5) (manyP 5) = ((manyW n 5).tdiv (1 + (n.getD 0 0 : Int)), 0) := by
  unfold upperE
  rw [if_pos (many_valid hb), many_div]
  show (upN (manyL n 5) (manyP 5) 4, (0 : Int)) = _
  simp only [upN, many_most hb (show 0 < 4 by decide), many_most hb (show 1 < 4 by decide), many_most hb (show 2 < 4 by decide), many_most hb (show 3 < 4 by decide), behind, Prod.mk.injEq, and_true]
  generalize 1 + (n.getD (0 + 1) 0 : Int) = b
  generalize 1 + (n.getD (1 + 1) 0 : Int) = c
  generalize 1 + (n.getD (2 + 1) 0 : Int) = d
  generalize 1 + (n.getD (3 + 1) 0 : Int) = e
  show 1 * b * c * d * e = b * (c * (d * (e * 1)))
  simp only [Int.mul_one, Int.mul_assoc, Int.one_mul]
theorem many_law (n : List Nat) (hn : n.length = 5) (hb : ∀ x ∈ n, x < 256) : Spec Tryd.prog 5 [.agg (u8Row n)] [] (.bool true) [] := by
  refine pathMany_walk n hn hb (cntsN (manyL n 5) (manyP 5) 0) (many_rep hb) ?_ ?_ (many_upper hb)
  · unfold eachE
    rw [if_pos (many_valid hb)]
  · rw [many_each, List.length_replicate]
end Go.Sx.Sp
namespace Go.Sx.Sp
open Go Go.Sx Go.Proofs Go.RowKit
attribute [local irreducible] GoodW famL
theorem times_u8 {n : Nat} : ∀ (k : Nat) (vs : List V), timesL (shape T (n + 1) 5) k vs → ∃ l : List Nat, vs = u8Row l ∧ l.length = k ∧ ∀ x ∈ l, x < 256
  | 0, vs, h => ⟨[], h, rfl, fun x hx => by cases hx⟩
  | k + 1, vs, h => by
    obtain ⟨a, b, rfl, h1, h2⟩ := h
    obtain ⟨x, rfl, h3, h4⟩ := shape_int (T := T) (t := 5) rfl h1
    obtain ⟨l, rfl, h5, h6⟩ := times_u8 k b h2
    rw [show IntKind.u8.min = 0 by decide] at h3
    rw [show IntKind.u8.max = 255 by decide] at h4
    refine ⟨x.toNat :: l, ?_, by simp [h5], fun y hy => ?_⟩
    · show _ = V.int .u8 ((x.toNat : Nat) : Int) :: u8Row l
      rw [Int.toNat_of_nonneg h3]; rfl
    · rcases List.mem_cons.1 hy with rfl | hy
      · omega
      · exact h6 y hy
theorem arg_u8s {n : Nat} {u : V} (hs : argShape T (n + 2) 50 u) : ∃ l : List Nat, u = .agg (u8Row l) ∧ l.length = 5 ∧ ∀ x ∈ l, x < 256 := by
  obtain ⟨vs, rfl, h⟩ := argShape_agg (T := T) (t := 50) rfl rfl hs
  obtain ⟨l, rfl, h1, h2⟩ := times_u8 (n := n) 5 vs (shape_arr (T := T) (t := 50) rfl h)
  exact ⟨l, rfl, h1, h2⟩
theorem many_calls {w : World} {v0 : Value} {u0 : V} (r0 : VRel w (fun _ => False) (fun _ _ => none) u0 v0) (a0 : argShape T 2 50 u0) (hg : GRel w (fun _ => False)) :
    Calls Tryd.prog 5 #[v0] w fun e w' => e = .returned (.bool true) ∧ Go.RowKit.Below w.heap.size w w' := by
  obtain ⟨l, rfl, h1, h2⟩ := arg_u8s a0
  refine Spec.law (many_law l h1 h2) (cargs := [v0]) rfl (fun j u c hj hc => ?_) ?_ hg
  · match j with
    | 0 => cases hj; cases hc; exact r0
    | j + 1 => cases hj
  · match l, h1 with
    | [_, _, _, _, _], _ => rfl
end Go.Sx.Sp
