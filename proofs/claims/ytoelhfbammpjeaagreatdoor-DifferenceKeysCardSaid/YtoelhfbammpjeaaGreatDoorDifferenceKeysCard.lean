/- The card of the law DifferenceKeys: its row, tied to the program text. No condition. -/
import Derived.Test.YtoelhfbammpjeaaGreatDoorDifferenceKeys
import Derived.Test.YtoelhfbammpjeaaGreatDoorCards
import Derived.Test.YtoelhfbammpjeaaGreatDoorTie
import Derived.SevenTiedAt
namespace Go.Proofs.YtoelhfbammpjeaaGreatDoor.differenceKeys
open Go.RowKit
set_option linter.unusedVariables false

theorem card : Rows.DifferenceKeysCardSaid :=
  Claim7.holds_tied_plain_at .later [] [.data, .data, .data, .data, .pinned] true (true, "7e2f96198392929a622263ff9d84ba2a772fb62181315a00bffa348a3a0e8b7f") false over (fun _ h => by cases h) (by kernel_rfl) (fun _ h => by cases h) differenceKeys_row_tie rfl ⟨rfl, rfl⟩ (by kernel_rfl) rfl
    (fun f fn hf hfn => by
      obtain rfl : f = 4 := Option.some.inj ((show Tryz.prog.funcNamed "tablefinder/tablefinderlaw37.DifferenceKeys" = some 4 by kernel_rfl).symm.trans hf) |>.symm
      obtain rfl : fn = Tryz.f4 := (Option.some.inj (Tryz.func4.symm.trans hfn)).symm
      exact ⟨by kernel_rfl, fun j t ht => by
        rw [Tryz.params4] at ht
        have hm : t ∈ [22] := by simpa using Array.mem_of_getElem? ht
        have hall : ([22].all fun u => !Tryz.prog.wantsStandIn u) = true := by kernel_rfl
        exact (show Tryz.prog.wantsStandIn t = false by simpa using List.all_eq_true.1 hall t hm)⟩)
    (by kernel_rfl)
end Go.Proofs.YtoelhfbammpjeaaGreatDoor.differenceKeys
