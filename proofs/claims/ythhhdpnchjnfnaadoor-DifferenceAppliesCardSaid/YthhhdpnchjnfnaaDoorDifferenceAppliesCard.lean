/- The card of the law DifferenceApplies: its row, tied to the program text. No condition. -/
import Derived.Test.YthhhdpnchjnfnaaDoorDifferenceApplies
import Derived.Test.YthhhdpnchjnfnaaDoorCards
import Derived.Test.YthhhdpnchjnfnaaDoorTie
import Derived.SevenTiedAt
namespace Go.Proofs.YthhhdpnchjnfnaaDoor.differenceApplies
open Go.RowKit
set_option linter.unusedVariables false

theorem card : Rows.DifferenceAppliesCardSaid :=
  Claim7.holds_tied_plain_at .later [] [.data, .pinned] true (true, "af77453d1ca29cbbcbd30f7472b9eab31d9b998451ea12762e125b627cb4dc57") false over (fun _ h => by cases h) (by kernel_rfl) (fun _ h => by cases h) differenceApplies_row_tie rfl ⟨rfl, rfl⟩ (by kernel_rfl) rfl
    (fun f fn hf hfn => by
      obtain rfl : f = 3 := Option.some.inj ((show Tryd.prog.funcNamed "tablefinder/tablefinderlaw37.DifferenceApplies" = some 3 by kernel_rfl).symm.trans hf) |>.symm
      obtain rfl : fn = Tryd.f3 := (Option.some.inj (Tryd.func3.symm.trans hfn)).symm
      exact ⟨by kernel_rfl, fun j t ht => by
        rw [Tryd.params3] at ht
        have hm : t ∈ [22, 26, 3, 3, 3] := by simpa using Array.mem_of_getElem? ht
        have hall : ([22, 26, 3, 3, 3].all fun u => !Tryd.prog.wantsStandIn u) = true := by kernel_rfl
        exact (show Tryd.prog.wantsStandIn t = false by simpa using List.all_eq_true.1 hall t hm)⟩)
    (by kernel_rfl)
end Go.Proofs.YthhhdpnchjnfnaaDoor.differenceApplies
