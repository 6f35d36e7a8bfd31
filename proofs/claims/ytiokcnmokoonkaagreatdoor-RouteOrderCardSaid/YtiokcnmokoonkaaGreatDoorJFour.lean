/- Reports of paths. -/
import Derived.Test.YtiokcnmokoonkaaGreatDoorJThree
import Derived.Test.YtiokcnmokoonkaaGreatDoorSxFour
set_option linter.unusedVariables false
set_option linter.unusedSimpArgs false
namespace Go.Sx.Sp
open Go Go.Sx Go.Proofs
attribute [local irreducible] GoodW famL
def repStep (r : Rep) (n : Int) : Rep := ⟨r.rows + n, if n = 0 then r.lost + 1 else r.lost, max r.most n, r.unused⟩
def repL (un : List Int) (cs : List Int) : Rep := cs.foldl repStep ⟨0, 0, 0, un⟩
def repE (l : List Table) (p : Pth) : Rep × Int := if validE l p = 0 then (repL (nodesU (planN l p) (p.steps.length + 1)).1 (cntsN l p 0), 0) else (⟨0, 0, 0, []⟩, validE l p)
theorem repL_snoc (un : List Int) {cs : List Int} {j : Nat} (h : j < cs.length) : repL un (cs.take (j + 1)) = repStep (repL un (cs.take j)) cs[j] := by
  unfold repL
  rw [List.take_succ_eq_append_getElem h, List.foldl_append]; rfl
end Go.Sx.Sp
namespace Go.Sx.Sp
open Go Go.Sx Go.Proofs
attribute [local irreducible] GoodW famL
theorem plan_bound {l : List Table} {p : Pth} (h : validE l p = 0) {i : Nat} (hi : i ≤ p.steps.length) : ∀ x ∈ cntsN l p i, 0 ≤ x ∧ x ≤ 1125899906842624 := by
  have hlen := nodesN_len l p p.steps.length (Nat.le_refl _)
  obtain ⟨k, hk⟩ : ∃ k, k + i = p.steps.length := ⟨p.steps.length - i, by omega⟩
  have hnx : (runD (nodesN l p p.steps.length) (p.steps.length + 1) k)[i]? = some (nodeAt l p p.steps.length i) := by
    obtain ⟨d, h1, _, h3⟩ := runD_shape hlen k (by omega) i _ (nodesN_get l p (Nat.le_refl _) hi)
    rw [h1, h3 (by omega)]
  have hst : ∀ q, i ≤ q → (planN l p)[q]? = (runD (nodesN l p p.steps.length) (p.steps.length + 1) (k + 1))[q]? := fun q hq => by
    unfold planN
    have := run_stable (nodesN l p p.steps.length) (p.steps.length + 1) q (k + 1) i (by omega) (by omega)
    rw [show k + 1 + i = p.steps.length + 1 by omega] at this
    exact this
  have hst2 : ∀ q, i < q → (planN l p)[q]? = (runD (nodesN l p p.steps.length) (p.steps.length + 1) k)[q]? := fun q hq => by
    rw [hst q (by omega)]
    exact run_stable (nodesN l p p.steps.length) (p.steps.length + 1) q k 1 (by omega) (by omega)
  have hko : kidsOf (runD (nodesN l p p.steps.length) (p.steps.length + 1) k) (nodeAt l p p.steps.length i) = kidsOf (planN l p) (nodeAt l p p.steps.length i) := by
    refine kidsOf_congr fun q hq => ?_
    rw [nodeAt_kids] at hq
    obtain ⟨q', g1, g2, rfl⟩ := kidsL_mem.1 hq
    have := parI_le p (i := q') (by omega)
    exact (hst2 _ (by omega)).symm
  have hc := cntOK_of h k (by omega)
  rw [show p.steps.length + 1 - 1 - k = i by omega] at hc
  have hb := hc.bnd
  obtain ⟨g1, g2⟩ := List.getElem?_eq_some_iff.1 hnx
  rw [g2] at hb
  intro x hx
  unfold cntsN at hx
  obtain ⟨r, hr, rfl⟩ := List.mem_map.1 hx
  have := hb r (List.mem_range.1 hr) _ (Nat.le_refl _)
  rw [show (nodeAt l p p.steps.length i).kids.length = (kidsOf (runD (nodesN l p p.steps.length) (p.steps.length + 1) k) (nodeAt l p p.steps.length i)).length by simp [kidsOf], List.take_length, hko] at this
  exact this
theorem repL_bound (un : List Int) (M : Int) (hM : 0 ≤ M) : ∀ (cs : List Int), (∀ x ∈ cs, 0 ≤ x ∧ x ≤ M) → ∀ j, j ≤ cs.length → (0 ≤ (repL un (cs.take j)).rows ∧ (repL un (cs.take j)).rows ≤ j * M) ∧ (0 ≤ (repL un (cs.take j)).lost ∧ (repL un (cs.take j)).lost ≤ j) ∧ (0 ≤ (repL un (cs.take j)).most ∧ (repL un (cs.take j)).most ≤ M)
  | cs, h, 0, _ => by simp [repL]; exact hM
  | cs, h, j + 1, hj => by
    have ih := repL_bound un M hM cs h j (by omega)
    have hx := h cs[j] (List.getElem_mem (by omega))
    rw [repL_snoc un (show j < cs.length by omega)]
    have e : ((j + 1 : Nat) : Int) * M = j * M + M := by rw [Int.natCast_add, Int.add_mul]; simp
    rw [e]
    unfold repStep
    simp only
    refine ⟨by omega, ?_, by omega⟩
    split <;> omega
theorem repL_un (un : List Int) : ∀ (cs : List Int) (r : Rep), (cs.foldl repStep r).unused = r.unused
  | [], _ => rfl
  | c :: cs, r => by rw [List.foldl_cons, repL_un un cs]; rfl
set_option maxHeartbeats 8000000 in
theorem report_spec (l : List Table) (p : Pth) : Spec Tryz.prog 38 [.sl (tblRows l) false, .agg p.row] [] (.tup [.agg (repE l p).1.row, .int .i64 (repE l p).2]) [] := by
  have sp1 := validP_spec l p
  refine gEn env Tryz.func38 fun Γ hN hK hML => ?_
  (refine gGo ?_; intros)
  (refine gPC (sp1) ?_; conv => whnf)
  by_cases h : validE l p = 0
  · have he : repE l p = (repL (nodesU (planN l p) (p.steps.length + 1)).1 (cntsN l p 0), 0) := by unfold repE; rw [if_pos h]
    have sp2 := new_spec l p (pathOK_of h) (cntOK_of h)
    have hlen := planN_len l p
    have hg := plan_get l p (Nat.zero_le p.steps.length)
    obtain ⟨h0, h1⟩ := List.getElem?_eq_some_iff.1 hg
    have hv := valid_path h
    have hrows : (cntsN l p 0).length ≤ 4096 := by
      rw [cntsN_len]; exact (tabOf_rows hv.1 _).1
    have sp3 := each_spec (planN l p) (p.steps.length + 1) hlen.symm h0 (by omega) (d := (cntsN l p 0, talsN l p 0)) (by rw [h1]) hrows
    have sp4 := unused_spec (planN l p) (p.steps.length + 1) hlen.symm (by omega) (planOK h)
    have hpb := plan_bound h (Nat.zero_le _)
    rw [he]
    rw [h]
    generalize (nodesU (planN l p) (p.steps.length + 1)).1 = un at *
    generalize cntsN l p 0 = cs at *
    have hrb := repL_bound un 1125899906842624 (by decide) cs hpb
    have hcl := intRows_len .i64 cs
    (refine gGo ?_; intros)
    (refine gCA [] [(0, 15), (1, 90)] [] (sp2) ?_; conv => whnf)
    (refine gGo ?_; intros)
    (refine gCA [(0, 15), (1, 90)] [] [] (sp4) ?_; conv => whnf)
    (refine gGo ?_; intros)
    (refine gCA [(0, 15), (1, 90)] [] [] (sp3) ?_; conv => whnf)
    (refine gGo ?_; intros)
    refine W.leG (mp := [(3, 3), (4, 4), (8, 8)]) (bo := []) (st' := ⟨[(4, .bp 4 0), (8, .bp 8 0), (25, .sl (intRows .i64 cs) false), (26, .int .i64 (intRows .i64 cs).length), (27, .int .i64 0)], [(3, [.rows 2 [p.row] none]), (4, [.rows 4 [[.int .i64 0, .int .i64 0, .int .i64 0, .nils]] none]), (8, [.rows 4 [[.int .i64 0, .int .i64 0, .int .i64 0, .sl (intRows .i64 un) false]] none])], [3, 4, 8]⟩)
      (LeG.mq (.ci 3 (.ci 4 (.ci 8 .nil)))) ?_
    refine W.loopG (fun n st => ∃ j : Nat, j ≤ cs.length ∧ n = cs.length - j ∧ st = ⟨[(4, .bp 4 0), (8, .bp 8 0), (25, .sl (intRows .i64 cs) false), (26, .int .i64 (intRows .i64 cs).length), (27, .int .i64 j)], [(4, [.rows 4 [[.int .i64 0, .int .i64 0, .int .i64 0, .nils]] none]), (8, [.rows 4 [(repL un (cs.take j)).row] none])], [4, 8]⟩)
      cs.length _ ⟨0, by omega, by omega, rfl⟩ ⟨[(4, 4), (8, 8)], [], [], LeG.mq (.ci 4 (.ci 8 .nil))⟩ ?_
    rintro n st ⟨j, hj, rfl, rfl⟩
    have hb0 := hrb j hj
    (refine gGo ?_; intros)
    refine boolRes_split (fun hb => ?_) (fun hb => ?_) <;> conv => whnf
    · have hlt : j < cs.length := by omega
      have hg1 := intRows_get (k := .i64) hlt
      have hsn := repL_snoc un hlt
      have hb1 := hrb (j + 1) (by omega)
      have hun0 : (repL un (cs.take j)).unused = un := repL_un un _ _
      generalize repL un (cs.take j) = R0 at *
      have hx := hpb cs[j] (List.getElem_mem hlt)
      generalize cs[j] = x at *
      unfold repStep at hsn
      by_cases hx0 : x = 0
      · rw [if_pos hx0] at hsn
        rw [hsn] at hb1
        simp only at hb1
        (refine gGo ?_; intros)
        refine rowAt_of (by simpa using hg1) ?_
        conv => whnf
        (refine gGo ?_; intros)
        refine ⟨_, _, ?_, ⟨j + 1, by omega, rfl, rfl⟩, [(4, 4), (8, 8)], [], [], LeG.mq (.ci 4 (.cons 8 rfl rfl (.refl _) ?_ .nil))⟩
        · omega
        · rw [hsn]; rfl
      · rw [if_neg hx0] at hsn
        rw [hsn] at hb1
        simp only at hb1
        (refine gGo ?_; intros)
        refine rowAt_of (by simpa using hg1) ?_
        conv => whnf
        (refine gGo ?_; intros)
        refine ⟨_, _, ?_, ⟨j + 1, by omega, rfl, rfl⟩, [(4, 4), (8, 8)], [], [], LeG.mq (.ci 4 (.cons 8 rfl rfl (.refl _) ?_ .nil))⟩
        · omega
        · rw [hsn]; rfl
    · have hje : j = cs.length := by omega
      rw [hje, List.take_length]
      (refine gGo ?_; intros)
      (refine gM ?_; conv => whnf)
      exact retH rfl (.norm _) rfl rfl rfl trivial
  · have he : repE l p = (⟨0, 0, 0, []⟩, validE l p) := by unfold repE; rw [if_neg h]
    rw [he]
    (refine gGo ?_; intros)
    (refine gM ?_; conv => whnf)
    exact retH rfl (.norm _) rfl rfl rfl trivial
end Go.Sx.Sp
namespace Go.Sx.Sp
open Go Go.Sx Go.Proofs
attribute [local irreducible] GoodW famL
end Go.Sx.Sp
namespace Go.Sx.Sp
open Go Go.Sx Go.Proofs
attribute [local irreducible] GoodW famL
end Go.Sx.Sp
namespace Go.Sx.Sp
open Go Go.Sx Go.Proofs
attribute [local irreducible] GoodW famL
def fitC (a b : Cell) : Bool := !a.null && (!b.null && decide (a.text = b.text))
section
variable (l : List Table) (p : Pth)
def tabN (i : Nat) : Table := (nodeAt l p p.steps.length i).t
def frN (i : Nat) : Nat := (nodeAt l p p.steps.length i).fr
def ownN (i : Nat) : Nat := (nodeAt l p p.steps.length i).own
end
end Go.Sx.Sp
namespace Go.Sx.Sp
open Go Go.Sx Go.Proofs
attribute [local irreducible] GoodW famL
section
variable (l : List Table) (p : Pth)
end
section
variable {l : List Table} {p : Pth}
end
end Go.Sx.Sp
namespace Go.Sx.Sp
open Go Go.Sx Go.Proofs
attribute [local irreducible] GoodW famL
end Go.Sx.Sp
namespace Go.Sx.Sp
open Go Go.Sx Go.Proofs
attribute [local irreducible] GoodW famL
end Go.Sx.Sp
namespace Go.Sx.Sp
open Go Go.Sx Go.Proofs Go.RowKit
attribute [local irreducible] GoodW famL
theorem arg_ints {n : Nat} {u : V} (hs : argShape T (n + 2) 22 u) : ∃ l : List Int, u = .sl (intRows .i64 l) false := by
  obtain ⟨rows, hr, _, h⟩ := shape_sl (T := T) (t := 22) rfl (argShape_one (T := T) (t := 22) rfl rfl hs)
  obtain ⟨l, rfl, _⟩ := rows_map (f := fun x : Int => [V.int .i64 x]) (p := fun _ => True) (rows := rows) fun r hr => by
    obtain ⟨x, rfl, _⟩ := shape_int (T := T) (t := 3) rfl (h r hr)
    exact ⟨x, rfl, trivial⟩
  cases hr
  exact ⟨l, rfl⟩
end Go.Sx.Sp
namespace Go.Sx.Sp
open Go Go.Sx Go.Proofs
attribute [local irreducible] GoodW famL
end Go.Sx.Sp
namespace Go.Sx.Sp
open Go Go.Sx Go.Proofs
attribute [local irreducible] GoodW famL
section
variable (l : List Table) (p : Pth)
def stepFits (q x y : Nat) : Bool := fitC (cellT (tabN l p (parI p q)) (frN l p (q + 1)) x) (cellT (tabN l p (q + 1)) (ownN l p (q + 1)) y)
end
section
variable {l : List Table} {p : Pth}
end
end Go.Sx.Sp
namespace Go.Sx.Sp
open Go Go.Sx Go.Proofs
attribute [local irreducible] GoodW famL
section
variable (A B C : List Column) (a b c e : Nat)
end
section
variable {A B C : List Column} {a b c e : Nat}
end
end Go.Sx.Sp
namespace Go.Sx.Sp
open Go Go.Sx Go.Proofs
attribute [local irreducible] GoodW famL
end Go.Sx.Sp
