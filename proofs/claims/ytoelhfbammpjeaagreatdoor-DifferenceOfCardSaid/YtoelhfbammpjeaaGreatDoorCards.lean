/-
  DERIVED. GIVEN WITH THE SEED: THE CARDS: each row of YtoelhfbammpjeaaGreatDoorRows.lean that lists a variable, with what it lists TIED to the program's text (the seventh form; the later family's looks); each row that meets fmt, with fmt's text TOLD by the authors' own Lean function (tested against real Go, not proved from fmt's source: count such statements apart). THE CARD IS WHAT COUNTS. Prove the row's statement (the work); the ties are given (YtoelhfbammpjeaaGreatDoorTie.lean); close each card by the builder's one call (the guide's Derived/Test/ToyasCard.lean, 'card_holds'). Laid BY PROGRAM, IN A SANDBOX (cutbox-door.mjs). By AI agents, Wed Nov 11 2026. No macro, syntax, notation, axiom, sorry.
-/
import Derived.Test.YtoelhfbammpjeaaGreatDoorRows
import GoSem.ClaimSeven
namespace Go.Proofs.YtoelhfbammpjeaaGreatDoor
namespace Rows

/-- THE TIED CARD OF 'tablefinderlaw37.DifferenceOf'. -/
def differenceOfCard : Claim7 := { stood := { row := differenceOfRow, standIns := [], harness := (true, "7e2f96198392929a622263ff9d84ba2a772fb62181315a00bffa348a3a0e8b7f"), looks := false }, kinds := [], alts := [], laidByText := true, laidKinds := [.data, .data, .data, .data, .pinned], laidTests := true, laidLooks := .later }
def DifferenceOfCardSaid : Prop := Claim7.holds Tryz.pinned (.plain (OpenSpec.ofChange differenceOfSpec)) differenceOfCard

/-- THE TIED CARD OF 'tablefinderlaw37.DifferenceKeys'. -/
def differenceKeysCard : Claim7 := { stood := { row := differenceKeysRow, standIns := [], harness := (true, "7e2f96198392929a622263ff9d84ba2a772fb62181315a00bffa348a3a0e8b7f"), looks := false }, kinds := [], alts := [], laidByText := true, laidKinds := [.data, .data, .data, .data, .pinned], laidTests := true, laidLooks := .later }
def DifferenceKeysCardSaid : Prop := Claim7.holds Tryz.pinned (.plain (OpenSpec.ofChange differenceKeysSpec)) differenceKeysCard

/-- THE SECOND FORM's CARD OF 'tablefinderlaw37.DifferenceOf'. -/
def differenceOfUptoCard : Claim7 := { stood := { row := differenceOfUptoRow, standIns := [], harness := (true, "7e2f96198392929a622263ff9d84ba2a772fb62181315a00bffa348a3a0e8b7f"), looks := false }, kinds := [], alts := [], laidByText := true, laidKinds := [.data, .data, .data, .data, .pinned], laidTests := true, laidLooks := .later }
def DifferenceOfUptoCardSaid : Prop := Claim7.holds Tryz.pinned (.plain (OpenSpec.upto differenceOfSpec)) differenceOfUptoCard

/-- THE SECOND FORM's CARD OF 'tablefinderlaw37.DifferenceKeys'. -/
def differenceKeysUptoCard : Claim7 := { stood := { row := differenceKeysUptoRow, standIns := [], harness := (true, "7e2f96198392929a622263ff9d84ba2a772fb62181315a00bffa348a3a0e8b7f"), looks := false }, kinds := [], alts := [], laidByText := true, laidKinds := [.data, .data, .data, .data, .pinned], laidTests := true, laidLooks := .later }
def DifferenceKeysUptoCardSaid : Prop := Claim7.holds Tryz.pinned (.plain (OpenSpec.upto differenceKeysSpec)) differenceKeysUptoCard
end Rows
end Go.Proofs.YtoelhfbammpjeaaGreatDoor
