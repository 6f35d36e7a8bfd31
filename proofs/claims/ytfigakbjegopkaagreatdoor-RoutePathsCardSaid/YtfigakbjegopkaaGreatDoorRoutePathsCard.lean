/- The card of the law RoutePaths: its row, tied to the program text. No condition. -/
import Derived.Test.YtfigakbjegopkaaGreatDoorRoutePaths
import Derived.Test.YtfigakbjegopkaaGreatDoorCards
import Derived.Test.YtfigakbjegopkaaGreatDoorTie
import Derived.SevenTiedAt
namespace Go.Proofs.YtfigakbjegopkaaGreatDoor.routePaths
open Go.RowKit
set_option linter.unusedVariables false

theorem card : Rows.RoutePathsCardSaid :=
  Claim7.holds_tied_plain_at .later [] [.data, .pinned] true (true, "795f8294be1a979370489532d47da4b2742627cc1f9aa7fea3eca29719abc22c") false over (fun _ h => by cases h) (by kernel_rfl) (fun _ h => by cases h) routePaths_row_tie rfl ⟨rfl, rfl⟩ (by kernel_rfl) rfl
    (fun f fn hf hfn => by
      obtain rfl : f = 3 := Option.some.inj ((show Tryz.prog.funcNamed "tablefinder/tablefinderlaw33.RoutePaths" = some 3 by kernel_rfl).symm.trans hf) |>.symm
      obtain rfl : fn = Tryz.f3 := (Option.some.inj (Tryz.func3.symm.trans hfn)).symm
      exact ⟨by kernel_rfl, fun j t ht => by
        rw [Tryz.params3] at ht
        have hm : t ∈ [22, 23, 3, 3, 3, 3] := by simpa using Array.mem_of_getElem? ht
        have hall : ([22, 23, 3, 3, 3, 3].all fun u => !Tryz.prog.wantsStandIn u) = true := by kernel_rfl
        exact (show Tryz.prog.wantsStandIn t = false by simpa using List.all_eq_true.1 hall t hm)⟩)
    (by kernel_rfl)
end Go.Proofs.YtfigakbjegopkaaGreatDoor.routePaths
