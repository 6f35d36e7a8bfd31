/- The card of the law JoinFits: its row, tied to the program text. No condition. -/
import Derived.Test.YtoneemdpilpnfaaDoorJoinFits
import Derived.Test.YtoneemdpilpnfaaDoorCards
import Derived.Test.YtoneemdpilpnfaaDoorTie
import Derived.SevenTiedAt
namespace Go.Proofs.YtoneemdpilpnfaaDoor.joinFits
open Go.RowKit
set_option linter.unusedVariables false

theorem card : Rows.JoinFitsCardSaid :=
  Claim7.holds_tied_plain_at .later [] [.data, .pinned] true (true, "b8e99c49a42f6e322f98a4e2f3f4407b08b2943d23acefbbc39cd7c9d59e4572") false over (fun _ h => by cases h) (by kernel_rfl) (fun _ h => by cases h) joinFits_row_tie rfl ⟨rfl, rfl⟩ (by kernel_rfl) rfl
    (fun f fn hf hfn => by
      obtain rfl : f = 10 := Option.some.inj ((show Tryd.prog.funcNamed "tablefinder/tablefinderlaw31.JoinFits" = some 10 by kernel_rfl).symm.trans hf) |>.symm
      obtain rfl : fn = Tryd.f10 := (Option.some.inj (Tryd.func10.symm.trans hfn)).symm
      exact ⟨by kernel_rfl, fun j t ht => by
        rw [Tryd.params10] at ht
        have hm : t ∈ [22] := by simpa using Array.mem_of_getElem? ht
        have hall : ([22].all fun u => !Tryd.prog.wantsStandIn u) = true := by kernel_rfl
        exact (show Tryd.prog.wantsStandIn t = false by simpa using List.all_eq_true.1 hall t hm)⟩)
    (by kernel_rfl)
end Go.Proofs.YtoneemdpilpnfaaDoor.joinFits
