/- The card of the law RouteBack: its row, tied to the program text. No condition. -/
import Derived.Test.YtiokcnmokoonkaaGreatDoorRouteBack
import Derived.Test.YtiokcnmokoonkaaGreatDoorCards
import Derived.Test.YtiokcnmokoonkaaGreatDoorTie
import Derived.SevenTiedAt
namespace Go.Proofs.YtiokcnmokoonkaaGreatDoor.routeBack
open Go.RowKit
set_option linter.unusedVariables false

theorem card : Rows.RouteBackCardSaid :=
  Claim7.holds_tied_plain_at .later [] [.data, .pinned] true (true, "0c8456880e8369c7b62a743279257299ca39a55fb6fcf4686b7ce642bb9e47aa") false over (fun _ h => by cases h) (by kernel_rfl) (fun _ h => by cases h) routeBack_row_tie rfl ⟨rfl, rfl⟩ (by kernel_rfl) rfl
    (fun f fn hf hfn => by
      obtain rfl : f = 7 := Option.some.inj ((show Tryz.prog.funcNamed "tablefinder/tablefinderlaw33.RouteBack" = some 7 by kernel_rfl).symm.trans hf) |>.symm
      obtain rfl : fn = Tryz.f7 := (Option.some.inj (Tryz.func7.symm.trans hfn)).symm
      exact ⟨by kernel_rfl, fun j t ht => by
        rw [Tryz.params7] at ht
        have hm : t ∈ [22] := by simpa using Array.mem_of_getElem? ht
        have hall : ([22].all fun u => !Tryz.prog.wantsStandIn u) = true := by kernel_rfl
        exact (show Tryz.prog.wantsStandIn t = false by simpa using List.all_eq_true.1 hall t hm)⟩)
    (by kernel_rfl)
end Go.Proofs.YtiokcnmokoonkaaGreatDoor.routeBack
