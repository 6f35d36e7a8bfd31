/- The card of the law ViewContains: its row, tied to the program text. No condition. -/
import Derived.Test.YthmohnenobkmcaaDoorViewContains
import Derived.Test.YthmohnenobkmcaaDoorCards
import Derived.Test.YthmohnenobkmcaaDoorTie
import Derived.SevenTiedAt
namespace Go.Proofs.YthmohnenobkmcaaDoor.viewContains
open Go.RowKit
set_option linter.unusedVariables false

theorem card : Rows.ViewContainsCardSaid :=
  Claim7.holds_tied_plain_at .later [] [.data, .data, .data, .data, .pinned] true (true, "428c7bd842c0929de240d38fb0046c133bb580a28870cae547f6bb8c8ebfd256") false over (fun _ h => by cases h) (by kernel_rfl) (fun _ h => by cases h) viewContains_row_tie rfl ⟨rfl, rfl⟩ (by kernel_rfl) rfl
    (fun f fn hf hfn => by
      obtain rfl : f = 3 := Option.some.inj ((show Tryd.prog.funcNamed "tablefinder/tablefinderlaw34.ViewContains" = some 3 by kernel_rfl).symm.trans hf) |>.symm
      obtain rfl : fn = Tryd.f3 := (Option.some.inj (Tryd.func3.symm.trans hfn)).symm
      exact ⟨by kernel_rfl, fun j t ht => by
        rw [Tryd.params3] at ht
        have hm : t ∈ [22] := by simpa using Array.mem_of_getElem? ht
        have hall : ([22].all fun u => !Tryd.prog.wantsStandIn u) = true := by kernel_rfl
        exact (show Tryd.prog.wantsStandIn t = false by simpa using List.all_eq_true.1 hall t hm)⟩)
    (by kernel_rfl)
end Go.Proofs.YthmohnenobkmcaaDoor.viewContains
