/- The card of the law ViewEvaluates: its row, tied to the program text. No condition. -/
import Derived.Test.YthmohnenobkmcaaGreatDoorViewEvaluates
import Derived.Test.YthmohnenobkmcaaGreatDoorCards
import Derived.Test.YthmohnenobkmcaaGreatDoorTie
import Derived.SevenTiedAt
namespace Go.Proofs.YthmohnenobkmcaaGreatDoor.viewEvaluates
open Go.RowKit
set_option linter.unusedVariables false

theorem card : Rows.ViewEvaluatesCardSaid :=
  Claim7.holds_tied_plain_at .later [] [.data, .pinned] true (true, "c80d54d4704c55c2d000315095091efe0e8aa4354df69bd693e01600fd0a3870") false over (fun _ h => by cases h) (by kernel_rfl) (fun _ h => by cases h) viewEvaluates_row_tie rfl ⟨rfl, rfl⟩ (by kernel_rfl) rfl
    (fun f fn hf hfn => by
      obtain rfl : f = 4 := Option.some.inj ((show Tryz.prog.funcNamed "tablefinder/tablefinderlaw34.ViewEvaluates" = some 4 by kernel_rfl).symm.trans hf) |>.symm
      obtain rfl : fn = Tryz.f4 := (Option.some.inj (Tryz.func4.symm.trans hfn)).symm
      exact ⟨by kernel_rfl, fun j t ht => by
        rw [Tryz.params4] at ht
        have hm : t ∈ [22, 42, 3, 3, 3] := by simpa using Array.mem_of_getElem? ht
        have hall : ([22, 42, 3, 3, 3].all fun u => !Tryz.prog.wantsStandIn u) = true := by kernel_rfl
        exact (show Tryz.prog.wantsStandIn t = false by simpa using List.all_eq_true.1 hall t hm)⟩)
    (by kernel_rfl)
end Go.Proofs.YthmohnenobkmcaaGreatDoor.viewEvaluates
