/- The card of the law ExampleAny: its row, tied to the program text. No condition. -/
import Derived.Test.YthlokmbefpjmgaaGreatDoorExampleAny
import Derived.Test.YthlokmbefpjmgaaGreatDoorCards
import Derived.Test.YthlokmbefpjmgaaGreatDoorTie
import Derived.SevenTiedAt
namespace Go.Proofs.YthlokmbefpjmgaaGreatDoor.exampleAny
open Go.RowKit
set_option linter.unusedVariables false

theorem card : Rows.ExampleAnyCardSaid :=
  Claim7.holds_tied_plain_at .later [] [.data, .data, .data, .data, .pinned] true (true, "4835d586db2dad54ab50f8af93ea08680e8cc0f0993bb4903f22683468dda01a") false over (fun _ h => by cases h) (by kernel_rfl) (fun _ h => by cases h) exampleAny_row_tie rfl ⟨rfl, rfl⟩ (by kernel_rfl) rfl
    (fun f fn hf hfn => by
      obtain rfl : f = 6 := Option.some.inj ((show Tryz.prog.funcNamed "tablefinder/tablefinderlaw35.ExampleAny" = some 6 by kernel_rfl).symm.trans hf) |>.symm
      obtain rfl : fn = Tryz.f6 := (Option.some.inj (Tryz.func6.symm.trans hfn)).symm
      exact ⟨by kernel_rfl, fun j t ht => by
        rw [Tryz.params6] at ht
        have hm : t ∈ [22] := by simpa using Array.mem_of_getElem? ht
        have hall : ([22].all fun u => !Tryz.prog.wantsStandIn u) = true := by kernel_rfl
        exact (show Tryz.prog.wantsStandIn t = false by simpa using List.all_eq_true.1 hall t hm)⟩)
    (by kernel_rfl)
end Go.Proofs.YthlokmbefpjmgaaGreatDoor.exampleAny
