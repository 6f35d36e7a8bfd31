/- The card of the law RouteAll: its row, tied to the program text. No condition. -/
import Derived.Test.YtiokcnmokoonkaaGreatDoorRouteAll
import Derived.Test.YtiokcnmokoonkaaGreatDoorCards
import Derived.Test.YtiokcnmokoonkaaGreatDoorTie
import Derived.SevenTiedAt
namespace Go.Proofs.YtiokcnmokoonkaaGreatDoor.routeAll
open Go.RowKit
set_option linter.unusedVariables false

theorem card : Rows.RouteAllCardSaid :=
  Claim7.holds_tied_plain_at .later [] [.data, .pinned] true (true, "0c8456880e8369c7b62a743279257299ca39a55fb6fcf4686b7ce642bb9e47aa") false over (fun _ h => by cases h) (by kernel_rfl) (fun _ h => by cases h) routeAll_row_tie rfl ⟨rfl, rfl⟩ (by kernel_rfl) rfl
    (fun f fn hf hfn => by
      obtain rfl : f = 5 := Option.some.inj ((show Tryz.prog.funcNamed "tablefinder/tablefinderlaw33.RouteAll" = some 5 by kernel_rfl).symm.trans hf) |>.symm
      obtain rfl : fn = Tryz.f5 := (Option.some.inj (Tryz.func5.symm.trans hfn)).symm
      exact ⟨by kernel_rfl, fun j t ht => by
        rw [Tryz.params5] at ht
        have hm : t ∈ [22] := by simpa using Array.mem_of_getElem? ht
        have hall : ([22].all fun u => !Tryz.prog.wantsStandIn u) = true := by kernel_rfl
        exact (show Tryz.prog.wantsStandIn t = false by simpa using List.all_eq_true.1 hall t hm)⟩)
    (by kernel_rfl)
end Go.Proofs.YtiokcnmokoonkaaGreatDoor.routeAll
