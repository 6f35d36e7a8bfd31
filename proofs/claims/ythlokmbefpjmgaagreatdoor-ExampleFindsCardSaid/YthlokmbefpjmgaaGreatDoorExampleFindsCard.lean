/- The card of the law ExampleFinds: its row, tied to the program text. No condition. -/
import Derived.Test.YthlokmbefpjmgaaGreatDoorExampleFinds
import Derived.Test.YthlokmbefpjmgaaGreatDoorCards
import Derived.Test.YthlokmbefpjmgaaGreatDoorTie
import Derived.SevenTiedAt
namespace Go.Proofs.YthlokmbefpjmgaaGreatDoor.exampleFinds
open Go.RowKit
set_option linter.unusedVariables false

theorem card : Rows.ExampleFindsCardSaid :=
  Claim7.holds_tied_plain_at .later [] [.data, .pinned] true (true, "4835d586db2dad54ab50f8af93ea08680e8cc0f0993bb4903f22683468dda01a") false over (fun _ h => by cases h) (by kernel_rfl) (fun _ h => by cases h) exampleFinds_row_tie rfl ⟨rfl, rfl⟩ (by kernel_rfl) rfl
    (fun f fn hf hfn => by
      obtain rfl : f = 3 := Option.some.inj ((show Tryz.prog.funcNamed "tablefinder/tablefinderlaw35.ExampleFinds" = some 3 by kernel_rfl).symm.trans hf) |>.symm
      obtain rfl : fn = Tryz.f3 := (Option.some.inj (Tryz.func3.symm.trans hfn)).symm
      exact ⟨by kernel_rfl, fun j t ht => by
        rw [Tryz.params3] at ht
        have hm : t ∈ [22, 25, 3, 3, 3] := by simpa using Array.mem_of_getElem? ht
        have hall : ([22, 25, 3, 3, 3].all fun u => !Tryz.prog.wantsStandIn u) = true := by kernel_rfl
        exact (show Tryz.prog.wantsStandIn t = false by simpa using List.all_eq_true.1 hall t hm)⟩)
    (by kernel_rfl)
end Go.Proofs.YthlokmbefpjmgaaGreatDoor.exampleFinds
