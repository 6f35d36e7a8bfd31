/- The order of rows by the texts of a column. -/
import Derived.Test.YtoelhfbammpjeaaGreatDoorDThree
import Derived.Test.YtoelhfbammpjeaaGreatDoorSxFour
set_option linter.unusedVariables false
set_option linter.unusedSimpArgs false
namespace Go.Sx.Sp
open Go Go.Sx Go.Proofs Go.RowKit Go.Shelf
attribute [local irreducible] GoodW
attribute [local instance] GQ
set_option maxHeartbeats 1000000 in
theorem byRow_spec (cs : List Cell) (i j : Nat) (hi : i < cs.length) (hj : j < cs.length) : Spec Tryz.prog 44 [.int .i64 (i : Nat), .int .i64 (j : Nat), .ro [.sl (cellRows cs) false] 0] [] (.int .i64 (Lib.compareBytes (cellI cs i).text (cellI cs j).text)) [] := by
  have h1 : cellI cs i = cs[i] := by simp [cellI, hi]
  have h2 : cellI cs j = cs[j] := by simp [cellI, hj]
  rw [h1, h2]
  have gx := cellRows_get hi
  have gy := cellRows_get hj
  generalize cs[i] = a at *
  generalize cs[j] = b at *
  have sp := texts_spec a b
  refine gEn env Tryz.func44 fun Γ hN hK hML => ?_
  (refine gGo ?_; intros)
  refine rowAt_of (by simpa using gx) ?_
  conv => whnf
  (refine gGo ?_; intros)
  refine rowAt_of (by simpa using gy) ?_
  conv => whnf
  (refine gGo ?_; intros)
  (refine gPC (sp) ?_; conv => whnf)
  (refine gGr ?_; intros)
  exact ret0 rfl rfl rfl
end Go.Sx.Sp
