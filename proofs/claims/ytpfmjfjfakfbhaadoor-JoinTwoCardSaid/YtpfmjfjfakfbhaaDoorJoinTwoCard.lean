/- The card of the law JoinTwo: its row, tied to the program text. No condition. -/
import Derived.Test.YtpfmjfjfakfbhaaDoorJoinTwo
import Derived.Test.YtpfmjfjfakfbhaaDoorCards
import Derived.Test.YtpfmjfjfakfbhaaDoorTie
import Derived.SevenTiedAt
namespace Go.Proofs.YtpfmjfjfakfbhaaDoor.joinTwo
open Go.RowKit
set_option linter.unusedVariables false

theorem card : Rows.JoinTwoCardSaid :=
  Claim7.holds_tied_plain_at .later [] [.data, .data, .data, .data, .pinned] true (true, "d7fc8cbc475603e3d3d91eb98b930f563edb5589d523a3158cf3fe7a062877d1") false over (fun _ h => by cases h) (by kernel_rfl) (fun _ h => by cases h) joinTwo_row_tie rfl ⟨rfl, rfl⟩ (by kernel_rfl) rfl
    (fun f fn hf hfn => by
      obtain rfl : f = 3 := Option.some.inj ((show Tryd.prog.funcNamed "tablefinder/tablefinderlaw31.JoinTwo" = some 3 by kernel_rfl).symm.trans hf) |>.symm
      obtain rfl : fn = Tryd.f3 := (Option.some.inj (Tryd.func3.symm.trans hfn)).symm
      exact ⟨by kernel_rfl, fun j t ht => by
        rw [Tryd.params3] at ht
        have hm : t ∈ [22, 25, 3, 3] := by simpa using Array.mem_of_getElem? ht
        have hall : ([22, 25, 3, 3].all fun u => !Tryd.prog.wantsStandIn u) = true := by kernel_rfl
        exact (show Tryd.prog.wantsStandIn t = false by simpa using List.all_eq_true.1 hall t hm)⟩)
    (by kernel_rfl)
end Go.Proofs.YtpfmjfjfakfbhaaDoor.joinTwo
