/- The card of the law ExampleHolds: its row, tied to the program text. No condition. -/
import Derived.Test.YthlokmbefpjmgaaGreatDoorExampleHolds
import Derived.Test.YthlokmbefpjmgaaGreatDoorCards
import Derived.Test.YthlokmbefpjmgaaGreatDoorTie
import Derived.SevenTiedAt
namespace Go.Proofs.YthlokmbefpjmgaaGreatDoor.exampleHolds
open Go.RowKit
set_option linter.unusedVariables false

theorem card : Rows.ExampleHoldsCardSaid :=
  Claim7.holds_tied_plain_at .later [] [.data, .pinned] true (true, "4835d586db2dad54ab50f8af93ea08680e8cc0f0993bb4903f22683468dda01a") false over (fun _ h => by cases h) (by kernel_rfl) (fun _ h => by cases h) exampleHolds_row_tie rfl ⟨rfl, rfl⟩ (by kernel_rfl) rfl
    (fun f fn hf hfn => by
      obtain rfl : f = 4 := Option.some.inj ((show Tryz.prog.funcNamed "tablefinder/tablefinderlaw35.ExampleHolds" = some 4 by kernel_rfl).symm.trans hf) |>.symm
      obtain rfl : fn = Tryz.f4 := (Option.some.inj (Tryz.func4.symm.trans hfn)).symm
      exact ⟨by kernel_rfl, fun j t ht => by
        rw [Tryz.params4] at ht
        have hm : t ∈ [22] := by simpa using Array.mem_of_getElem? ht
        have hall : ([22].all fun u => !Tryz.prog.wantsStandIn u) = true := by kernel_rfl
        exact (show Tryz.prog.wantsStandIn t = false by simpa using List.all_eq_true.1 hall t hm)⟩)
    (by kernel_rfl)
end Go.Proofs.YthlokmbefpjmgaaGreatDoor.exampleHolds
