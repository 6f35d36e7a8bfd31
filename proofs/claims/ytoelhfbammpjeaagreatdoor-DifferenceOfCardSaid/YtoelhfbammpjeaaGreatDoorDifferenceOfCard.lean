/- The card of the law DifferenceOf: its row, tied to the program text. No condition. -/
import Derived.Test.YtoelhfbammpjeaaGreatDoorDifferenceOf
import Derived.Test.YtoelhfbammpjeaaGreatDoorCards
import Derived.Test.YtoelhfbammpjeaaGreatDoorTie
import Derived.SevenTiedAt
namespace Go.Proofs.YtoelhfbammpjeaaGreatDoor.differenceOf
open Go.RowKit
set_option linter.unusedVariables false

theorem card : Rows.DifferenceOfCardSaid :=
  Claim7.holds_tied_plain_at .later [] [.data, .data, .data, .data, .pinned] true (true, "7e2f96198392929a622263ff9d84ba2a772fb62181315a00bffa348a3a0e8b7f") false over (fun _ h => by cases h) (by kernel_rfl) (fun _ h => by cases h) differenceOf_row_tie rfl ⟨rfl, rfl⟩ (by kernel_rfl) rfl
    (fun f fn hf hfn => by
      obtain rfl : f = 3 := Option.some.inj ((show Tryz.prog.funcNamed "tablefinder/tablefinderlaw37.DifferenceOf" = some 3 by kernel_rfl).symm.trans hf) |>.symm
      obtain rfl : fn = Tryz.f3 := (Option.some.inj (Tryz.func3.symm.trans hfn)).symm
      exact ⟨by kernel_rfl, fun j t ht => by
        rw [Tryz.params3] at ht
        have hm : t ∈ [22, 25, 25, 3, 3] := by simpa using Array.mem_of_getElem? ht
        have hall : ([22, 25, 25, 3, 3].all fun u => !Tryz.prog.wantsStandIn u) = true := by kernel_rfl
        exact (show Tryz.prog.wantsStandIn t = false by simpa using List.all_eq_true.1 hall t hm)⟩)
    (by kernel_rfl)
end Go.Proofs.YtoelhfbammpjeaaGreatDoor.differenceOf
