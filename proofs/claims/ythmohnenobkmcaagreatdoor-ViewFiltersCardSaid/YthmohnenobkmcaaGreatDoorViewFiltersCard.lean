/- The card of the law ViewFilters: its row, tied to the program text. No condition. -/
import Derived.Test.YthmohnenobkmcaaGreatDoorViewFilters
import Derived.Test.YthmohnenobkmcaaGreatDoorCards
import Derived.Test.YthmohnenobkmcaaGreatDoorTie
import Derived.SevenTiedAt
namespace Go.Proofs.YthmohnenobkmcaaGreatDoor.viewFilters
open Go.RowKit
set_option linter.unusedVariables false

theorem card : Rows.ViewFiltersCardSaid :=
  Claim7.holds_tied_plain_at .later [] [.data, .pinned] true (true, "c80d54d4704c55c2d000315095091efe0e8aa4354df69bd693e01600fd0a3870") false over (fun _ h => by cases h) (by kernel_rfl) (fun _ h => by cases h) viewFilters_row_tie rfl ⟨rfl, rfl⟩ (by kernel_rfl) rfl
    (fun f fn hf hfn => by
      obtain rfl : f = 5 := Option.some.inj ((show Tryz.prog.funcNamed "tablefinder/tablefinderlaw34.ViewFilters" = some 5 by kernel_rfl).symm.trans hf) |>.symm
      obtain rfl : fn = Tryz.f5 := (Option.some.inj (Tryz.func5.symm.trans hfn)).symm
      exact ⟨by kernel_rfl, fun j t ht => by
        rw [Tryz.params5] at ht
        have hm : t ∈ [22, 9] := by simpa using Array.mem_of_getElem? ht
        have hall : ([22, 9].all fun u => !Tryz.prog.wantsStandIn u) = true := by kernel_rfl
        exact (show Tryz.prog.wantsStandIn t = false by simpa using List.all_eq_true.1 hall t hm)⟩)
    (by kernel_rfl)
end Go.Proofs.YthmohnenobkmcaaGreatDoor.viewFilters
