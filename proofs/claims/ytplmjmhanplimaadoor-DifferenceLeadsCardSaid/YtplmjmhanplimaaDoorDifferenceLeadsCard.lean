/- The card of the law DifferenceLeads: its row, tied to the program text. No condition. -/
import Derived.Test.YtplmjmhanplimaaDoorDifferenceLeads
import Derived.Test.YtplmjmhanplimaaDoorCards
import Derived.Test.YtplmjmhanplimaaDoorTie
import Derived.SevenTiedAt
namespace Go.Proofs.YtplmjmhanplimaaDoor.differenceLeads
open Go.RowKit
set_option linter.unusedVariables false

theorem card : Rows.DifferenceLeadsCardSaid :=
  Claim7.holds_tied_plain_at .later [] [.data, .pinned] true (true, "f203ac553b4f1cddf5d05f4625c1d3f1d8f0f54db054dcc8966ea2f0f772ba3e") false over (fun _ h => by cases h) (by kernel_rfl) (fun _ h => by cases h) differenceLeads_row_tie rfl ⟨rfl, rfl⟩ (by kernel_rfl) rfl
    (fun f fn hf hfn => by
      obtain rfl : f = 6 := Option.some.inj ((show Tryd.prog.funcNamed "tablefinder/tablefinderlaw37.DifferenceLeads" = some 6 by kernel_rfl).symm.trans hf) |>.symm
      obtain rfl : fn = Tryd.f6 := (Option.some.inj (Tryd.func6.symm.trans hfn)).symm
      exact ⟨by kernel_rfl, fun j t ht => by
        rw [Tryd.params6] at ht
        have hm : t ∈ [22] := by simpa using Array.mem_of_getElem? ht
        have hall : ([22].all fun u => !Tryd.prog.wantsStandIn u) = true := by kernel_rfl
        exact (show Tryd.prog.wantsStandIn t = false by simpa using List.all_eq_true.1 hall t hm)⟩)
    (by kernel_rfl)
end Go.Proofs.YtplmjmhanplimaaDoor.differenceLeads
