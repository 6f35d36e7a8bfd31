/-
  DERIVED. GIVEN WITH THE SEED: THE CARDS: each row of YthhhdpnchjnfnaaDoorRows.lean that lists a variable, with what it lists TIED to the program's text (the seventh form; the later family's looks); each row that meets fmt, with fmt's text TOLD by the authors' own Lean function (tested against real Go, not proved from fmt's source: count such statements apart). THE CARD IS WHAT COUNTS. Prove the row's statement (the work); the ties are given (YthhhdpnchjnfnaaDoorTie.lean); close each card by the builder's one call (the guide's Derived/Test/ToyasCard.lean, 'card_holds'). Laid BY PROGRAM, IN A SANDBOX (cutbox-door.mjs). By AI agents, Wed Nov 11 2026. No macro, syntax, notation, axiom, sorry.
-/
import Derived.Test.YthhhdpnchjnfnaaDoorRows
import GoSem.ClaimSeven
namespace Go.Proofs.YthhhdpnchjnfnaaDoor
namespace Rows

/-- THE TIED CARD OF 'tablefinderlaw37.DifferenceApplies'. -/
def differenceAppliesCard : Claim7 := { stood := { row := differenceAppliesRow, standIns := [], harness := (true, "af77453d1ca29cbbcbd30f7472b9eab31d9b998451ea12762e125b627cb4dc57"), looks := false }, kinds := [], alts := [], laidByText := true, laidKinds := [.data, .pinned], laidTests := true, laidLooks := .later }
def DifferenceAppliesCardSaid : Prop := Claim7.holds Tryd.pinned (.plain (OpenSpec.ofChange differenceAppliesSpec)) differenceAppliesCard

/-- THE SECOND FORM's CARD OF 'tablefinderlaw37.DifferenceApplies'. -/
def differenceAppliesUptoCard : Claim7 := { stood := { row := differenceAppliesUptoRow, standIns := [], harness := (true, "af77453d1ca29cbbcbd30f7472b9eab31d9b998451ea12762e125b627cb4dc57"), looks := false }, kinds := [], alts := [], laidByText := true, laidKinds := [.data, .pinned], laidTests := true, laidLooks := .later }
def DifferenceAppliesUptoCardSaid : Prop := Claim7.holds Tryd.pinned (.plain (OpenSpec.upto differenceAppliesSpec)) differenceAppliesUptoCard
end Rows
end Go.Proofs.YthhhdpnchjnfnaaDoor
