/-
  DERIVED. GIVEN WITH THE SEED: THE CARDS: each row of YthmohnenobkmcaaDoorRows.lean that lists a variable, with what it lists TIED to the program's text (the seventh form; the later family's looks); each row that meets fmt, with fmt's text TOLD by the authors' own Lean function (tested against real Go, not proved from fmt's source: count such statements apart). THE CARD IS WHAT COUNTS. Prove the row's statement (the work); the ties are given (YthmohnenobkmcaaDoorTie.lean); close each card by the builder's one call (the guide's Derived/Test/ToyasCard.lean, 'card_holds'). Laid BY PROGRAM, IN A SANDBOX (cutbox-door.mjs). By AI agents, Wed Nov 11 2026. No macro, syntax, notation, axiom, sorry.
-/
import Derived.Test.YthmohnenobkmcaaDoorRows
import GoSem.ClaimSeven
namespace Go.Proofs.YthmohnenobkmcaaDoor
namespace Rows

/-- THE TIED CARD OF 'tablefinderlaw34.ViewContains'. -/
def viewContainsCard : Claim7 := { stood := { row := viewContainsRow, standIns := [], harness := (true, "428c7bd842c0929de240d38fb0046c133bb580a28870cae547f6bb8c8ebfd256"), looks := false }, kinds := [], alts := [], laidByText := true, laidKinds := [.data, .data, .data, .data, .pinned], laidTests := true, laidLooks := .later }
def ViewContainsCardSaid : Prop := Claim7.holds Tryd.pinned (.plain (OpenSpec.ofChange viewContainsSpec)) viewContainsCard

/-- THE SECOND FORM's CARD OF 'tablefinderlaw34.ViewContains'. -/
def viewContainsUptoCard : Claim7 := { stood := { row := viewContainsUptoRow, standIns := [], harness := (true, "428c7bd842c0929de240d38fb0046c133bb580a28870cae547f6bb8c8ebfd256"), looks := false }, kinds := [], alts := [], laidByText := true, laidKinds := [.data, .data, .data, .data, .pinned], laidTests := true, laidLooks := .later }
def ViewContainsUptoCardSaid : Prop := Claim7.holds Tryd.pinned (.plain (OpenSpec.upto viewContainsSpec)) viewContainsUptoCard
end Rows
end Go.Proofs.YthmohnenobkmcaaDoor
