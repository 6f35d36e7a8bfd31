/- The card of the law JoinTurns: its row, tied to the program text. No condition. -/
import Derived.Test.YtjklpocgdppmdaaDoorJoinTurns
import Derived.Test.YtjklpocgdppmdaaDoorCards
import Derived.Test.YtjklpocgdppmdaaDoorTie
import Derived.SevenTiedAt
namespace Go.Proofs.YtjklpocgdppmdaaDoor.joinTurns
open Go.RowKit
set_option linter.unusedVariables false

theorem card : Rows.JoinTurnsCardSaid :=
  Claim7.holds_tied_plain_at .later [] [.data, .pinned] true (true, "d8c36218e7dfb285c0dfad6df5e2956e8998bf996bfaab18e456997864abf0ad") false over (fun _ h => by cases h) (by kernel_rfl) (fun _ h => by cases h) joinTurns_row_tie rfl ⟨rfl, rfl⟩ (by kernel_rfl) rfl
    (fun f fn hf hfn => by
      obtain rfl : f = 3 := Option.some.inj ((show Tryd.prog.funcNamed "tablefinder/tablefinderlaw31.JoinTurns" = some 3 by kernel_rfl).symm.trans hf) |>.symm
      obtain rfl : fn = Tryd.f3 := (Option.some.inj (Tryd.func3.symm.trans hfn)).symm
      exact ⟨by kernel_rfl, fun j t ht => by
        rw [Tryd.params3] at ht
        have hm : t ∈ [22] := by simpa using Array.mem_of_getElem? ht
        have hall : ([22].all fun u => !Tryd.prog.wantsStandIn u) = true := by kernel_rfl
        exact (show Tryd.prog.wantsStandIn t = false by simpa using List.all_eq_true.1 hall t hm)⟩)
    (by kernel_rfl)
end Go.Proofs.YtjklpocgdppmdaaDoor.joinTurns
