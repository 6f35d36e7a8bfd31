/-
  DERIVED. GIVEN WITH THE SEED: THE CARDS: each row of YthlokmbefpjmgaaGreatDoorRows.lean that lists a variable, with what it lists TIED to the program's text (the seventh form; the later family's looks); each row that meets fmt, with fmt's text TOLD by the authors' own Lean function (tested against real Go, not proved from fmt's source: count such statements apart). THE CARD IS WHAT COUNTS. Prove the row's statement (the work); the ties are given (YthlokmbefpjmgaaGreatDoorTie.lean); close each card by the builder's one call (the guide's Derived/Test/ToyasCard.lean, 'card_holds'). Laid BY PROGRAM, IN A SANDBOX (cutbox-door.mjs). By AI agents, Wed Nov 11 2026. No macro, syntax, notation, axiom, sorry.
-/
import Derived.Test.YthlokmbefpjmgaaGreatDoorRows
import GoSem.ClaimSeven
namespace Go.Proofs.YthlokmbefpjmgaaGreatDoor
namespace Rows

/-- THE TIED CARD OF 'tablefinderlaw35.ExampleFinds'. -/
def exampleFindsCard : Claim7 := { stood := { row := exampleFindsRow, standIns := [], harness := (true, "4835d586db2dad54ab50f8af93ea08680e8cc0f0993bb4903f22683468dda01a"), looks := false }, kinds := [], alts := [], laidByText := true, laidKinds := [.data, .pinned], laidTests := true, laidLooks := .later }
def ExampleFindsCardSaid : Prop := Claim7.holds Tryz.pinned (.plain (OpenSpec.ofChange exampleFindsSpec)) exampleFindsCard

/-- THE TIED CARD OF 'tablefinderlaw35.ExampleHolds'. -/
def exampleHoldsCard : Claim7 := { stood := { row := exampleHoldsRow, standIns := [], harness := (true, "4835d586db2dad54ab50f8af93ea08680e8cc0f0993bb4903f22683468dda01a"), looks := false }, kinds := [], alts := [], laidByText := true, laidKinds := [.data, .pinned], laidTests := true, laidLooks := .later }
def ExampleHoldsCardSaid : Prop := Claim7.holds Tryz.pinned (.plain (OpenSpec.ofChange exampleHoldsSpec)) exampleHoldsCard

/-- THE TIED CARD OF 'tablefinderlaw35.ExampleSelf'. -/
def exampleSelfCard : Claim7 := { stood := { row := exampleSelfRow, standIns := [], harness := (true, "4835d586db2dad54ab50f8af93ea08680e8cc0f0993bb4903f22683468dda01a"), looks := false }, kinds := [], alts := [], laidByText := true, laidKinds := [.data, .pinned], laidTests := true, laidLooks := .later }
def ExampleSelfCardSaid : Prop := Claim7.holds Tryz.pinned (.plain (OpenSpec.ofChange exampleSelfSpec)) exampleSelfCard

/-- THE TIED CARD OF 'tablefinderlaw35.ExampleAny'. -/
def exampleAnyCard : Claim7 := { stood := { row := exampleAnyRow, standIns := [], harness := (true, "4835d586db2dad54ab50f8af93ea08680e8cc0f0993bb4903f22683468dda01a"), looks := false }, kinds := [], alts := [], laidByText := true, laidKinds := [.data, .data, .data, .data, .pinned], laidTests := true, laidLooks := .later }
def ExampleAnyCardSaid : Prop := Claim7.holds Tryz.pinned (.plain (OpenSpec.ofChange exampleAnySpec)) exampleAnyCard

/-- THE SECOND FORM's CARD OF 'tablefinderlaw35.ExampleFinds'. -/
def exampleFindsUptoCard : Claim7 := { stood := { row := exampleFindsUptoRow, standIns := [], harness := (true, "4835d586db2dad54ab50f8af93ea08680e8cc0f0993bb4903f22683468dda01a"), looks := false }, kinds := [], alts := [], laidByText := true, laidKinds := [.data, .pinned], laidTests := true, laidLooks := .later }
def ExampleFindsUptoCardSaid : Prop := Claim7.holds Tryz.pinned (.plain (OpenSpec.upto exampleFindsSpec)) exampleFindsUptoCard

/-- THE SECOND FORM's CARD OF 'tablefinderlaw35.ExampleHolds'. -/
def exampleHoldsUptoCard : Claim7 := { stood := { row := exampleHoldsUptoRow, standIns := [], harness := (true, "4835d586db2dad54ab50f8af93ea08680e8cc0f0993bb4903f22683468dda01a"), looks := false }, kinds := [], alts := [], laidByText := true, laidKinds := [.data, .pinned], laidTests := true, laidLooks := .later }
def ExampleHoldsUptoCardSaid : Prop := Claim7.holds Tryz.pinned (.plain (OpenSpec.upto exampleHoldsSpec)) exampleHoldsUptoCard

/-- THE SECOND FORM's CARD OF 'tablefinderlaw35.ExampleSelf'. -/
def exampleSelfUptoCard : Claim7 := { stood := { row := exampleSelfUptoRow, standIns := [], harness := (true, "4835d586db2dad54ab50f8af93ea08680e8cc0f0993bb4903f22683468dda01a"), looks := false }, kinds := [], alts := [], laidByText := true, laidKinds := [.data, .pinned], laidTests := true, laidLooks := .later }
def ExampleSelfUptoCardSaid : Prop := Claim7.holds Tryz.pinned (.plain (OpenSpec.upto exampleSelfSpec)) exampleSelfUptoCard

/-- THE SECOND FORM's CARD OF 'tablefinderlaw35.ExampleAny'. -/
def exampleAnyUptoCard : Claim7 := { stood := { row := exampleAnyUptoRow, standIns := [], harness := (true, "4835d586db2dad54ab50f8af93ea08680e8cc0f0993bb4903f22683468dda01a"), looks := false }, kinds := [], alts := [], laidByText := true, laidKinds := [.data, .data, .data, .data, .pinned], laidTests := true, laidLooks := .later }
def ExampleAnyUptoCardSaid : Prop := Claim7.holds Tryz.pinned (.plain (OpenSpec.upto exampleAnySpec)) exampleAnyUptoCard
end Rows
end Go.Proofs.YthlokmbefpjmgaaGreatDoor
