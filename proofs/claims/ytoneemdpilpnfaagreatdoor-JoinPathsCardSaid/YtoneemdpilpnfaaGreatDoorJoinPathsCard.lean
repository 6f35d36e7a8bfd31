/- The card of the law JoinPaths: its row, tied to the program text. No condition. -/
import Derived.Test.YtoneemdpilpnfaaGreatDoorJoinPaths
import Derived.Test.YtoneemdpilpnfaaGreatDoorCards
import Derived.Test.YtoneemdpilpnfaaGreatDoorTie
import Derived.SevenTiedAt
namespace Go.Proofs.YtoneemdpilpnfaaGreatDoor.joinPaths
open Go.RowKit
set_option linter.unusedVariables false

theorem card : Rows.JoinPathsCardSaid :=
  Claim7.holds_tied_plain_at .later [] [.data, .pinned] true (true, "61ff827e11218ed406d27735ed1f2bc9e42a7bcdab55cb9d5dc21d999cc988f0") false over (fun _ h => by cases h) (by kernel_rfl) (fun _ h => by cases h) joinPaths_row_tie rfl ⟨rfl, rfl⟩ (by kernel_rfl) rfl
    (fun f fn hf hfn => by
      obtain rfl : f = 4 := Option.some.inj ((show Tryz.prog.funcNamed "tablefinder/tablefinderlaw31.JoinPaths" = some 4 by kernel_rfl).symm.trans hf) |>.symm
      obtain rfl : fn = Tryz.f4 := (Option.some.inj (Tryz.func4.symm.trans hfn)).symm
      exact ⟨by kernel_rfl, fun j t ht => by
        rw [Tryz.params4] at ht
        have hm : t ∈ [22, 25, 3, 3, 3] := by simpa using Array.mem_of_getElem? ht
        have hall : ([22, 25, 3, 3, 3].all fun u => !Tryz.prog.wantsStandIn u) = true := by kernel_rfl
        exact (show Tryz.prog.wantsStandIn t = false by simpa using List.all_eq_true.1 hall t hm)⟩)
    (by kernel_rfl)
end Go.Proofs.YtoneemdpilpnfaaGreatDoor.joinPaths
