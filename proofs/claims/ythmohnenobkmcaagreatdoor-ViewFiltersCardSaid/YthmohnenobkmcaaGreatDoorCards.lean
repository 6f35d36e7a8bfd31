/-
  DERIVED. GIVEN WITH THE SEED: THE CARDS: each row of YthmohnenobkmcaaGreatDoorRows.lean that lists a variable, with what it lists TIED to the program's text (the seventh form; the later family's looks); each row that meets fmt, with fmt's text TOLD by the authors' own Lean function (tested against real Go, not proved from fmt's source: count such statements apart). THE CARD IS WHAT COUNTS. Prove the row's statement (the work); the ties are given (YthmohnenobkmcaaGreatDoorTie.lean); close each card by the builder's one call (the guide's Derived/Test/ToyasCard.lean, 'card_holds'). Laid BY PROGRAM, IN A SANDBOX (cutbox-door.mjs). By AI agents, Wed Nov 11 2026. No macro, syntax, notation, axiom, sorry.
-/
import Derived.Test.YthmohnenobkmcaaGreatDoorRows
import GoSem.ClaimSeven
namespace Go.Proofs.YthmohnenobkmcaaGreatDoor
namespace Rows

/-- THE TIED CARD OF 'tablefinderlaw34.ViewPlain'. -/
def viewPlainCard : Claim7 := { stood := { row := viewPlainRow, standIns := [], harness := (true, "c80d54d4704c55c2d000315095091efe0e8aa4354df69bd693e01600fd0a3870"), looks := false }, kinds := [], alts := [], laidByText := true, laidKinds := [.data, .pinned], laidTests := true, laidLooks := .later }
def ViewPlainCardSaid : Prop := Claim7.holds Tryz.pinned (.plain (OpenSpec.ofChange viewPlainSpec)) viewPlainCard

/-- THE TIED CARD OF 'tablefinderlaw34.ViewEvaluates'. -/
def viewEvaluatesCard : Claim7 := { stood := { row := viewEvaluatesRow, standIns := [], harness := (true, "c80d54d4704c55c2d000315095091efe0e8aa4354df69bd693e01600fd0a3870"), looks := false }, kinds := [], alts := [], laidByText := true, laidKinds := [.data, .pinned], laidTests := true, laidLooks := .later }
def ViewEvaluatesCardSaid : Prop := Claim7.holds Tryz.pinned (.plain (OpenSpec.ofChange viewEvaluatesSpec)) viewEvaluatesCard

/-- THE TIED CARD OF 'tablefinderlaw34.ViewFilters'. -/
def viewFiltersCard : Claim7 := { stood := { row := viewFiltersRow, standIns := [], harness := (true, "c80d54d4704c55c2d000315095091efe0e8aa4354df69bd693e01600fd0a3870"), looks := false }, kinds := [], alts := [], laidByText := true, laidKinds := [.data, .pinned], laidTests := true, laidLooks := .later }
def ViewFiltersCardSaid : Prop := Claim7.holds Tryz.pinned (.plain (OpenSpec.ofChange viewFiltersSpec)) viewFiltersCard

/-- THE TIED CARD OF 'tablefinderlaw34.ViewTwice'. -/
def viewTwiceCard : Claim7 := { stood := { row := viewTwiceRow, standIns := [], harness := (true, "c80d54d4704c55c2d000315095091efe0e8aa4354df69bd693e01600fd0a3870"), looks := false }, kinds := [], alts := [], laidByText := true, laidKinds := [.data, .pinned], laidTests := true, laidLooks := .later }
def ViewTwiceCardSaid : Prop := Claim7.holds Tryz.pinned (.plain (OpenSpec.ofChange viewTwiceSpec)) viewTwiceCard

/-- THE TIED CARD OF 'tablefinderlaw35.ExampleFinds'. -/
def exampleFindsCard : Claim7 := { stood := { row := exampleFindsRow, standIns := [], harness := (true, "c80d54d4704c55c2d000315095091efe0e8aa4354df69bd693e01600fd0a3870"), looks := false }, kinds := [], alts := [], laidByText := true, laidKinds := [.data, .pinned], laidTests := true, laidLooks := .later }
def ExampleFindsCardSaid : Prop := Claim7.holds Tryz.pinned (.plain (OpenSpec.ofChange exampleFindsSpec)) exampleFindsCard

/-- THE TIED CARD OF 'tablefinderlaw35.ExampleHolds'. -/
def exampleHoldsCard : Claim7 := { stood := { row := exampleHoldsRow, standIns := [], harness := (true, "c80d54d4704c55c2d000315095091efe0e8aa4354df69bd693e01600fd0a3870"), looks := false }, kinds := [], alts := [], laidByText := true, laidKinds := [.data, .pinned], laidTests := true, laidLooks := .later }
def ExampleHoldsCardSaid : Prop := Claim7.holds Tryz.pinned (.plain (OpenSpec.ofChange exampleHoldsSpec)) exampleHoldsCard

/-- THE TIED CARD OF 'tablefinderlaw35.ExampleSelf'. -/
def exampleSelfCard : Claim7 := { stood := { row := exampleSelfRow, standIns := [], harness := (true, "c80d54d4704c55c2d000315095091efe0e8aa4354df69bd693e01600fd0a3870"), looks := false }, kinds := [], alts := [], laidByText := true, laidKinds := [.data, .pinned], laidTests := true, laidLooks := .later }
def ExampleSelfCardSaid : Prop := Claim7.holds Tryz.pinned (.plain (OpenSpec.ofChange exampleSelfSpec)) exampleSelfCard

/-- THE TIED CARD OF 'tablefinderlaw35.ExampleAny'. -/
def exampleAnyCard : Claim7 := { stood := { row := exampleAnyRow, standIns := [], harness := (true, "c80d54d4704c55c2d000315095091efe0e8aa4354df69bd693e01600fd0a3870"), looks := false }, kinds := [], alts := [], laidByText := true, laidKinds := [.data, .data, .data, .data, .pinned], laidTests := true, laidLooks := .later }
def ExampleAnyCardSaid : Prop := Claim7.holds Tryz.pinned (.plain (OpenSpec.ofChange exampleAnySpec)) exampleAnyCard

/-- THE SECOND FORM's CARD OF 'tablefinderlaw34.ViewPlain'. -/
def viewPlainUptoCard : Claim7 := { stood := { row := viewPlainUptoRow, standIns := [], harness := (true, "c80d54d4704c55c2d000315095091efe0e8aa4354df69bd693e01600fd0a3870"), looks := false }, kinds := [], alts := [], laidByText := true, laidKinds := [.data, .pinned], laidTests := true, laidLooks := .later }
def ViewPlainUptoCardSaid : Prop := Claim7.holds Tryz.pinned (.plain (OpenSpec.upto viewPlainSpec)) viewPlainUptoCard

/-- THE SECOND FORM's CARD OF 'tablefinderlaw34.ViewEvaluates'. -/
def viewEvaluatesUptoCard : Claim7 := { stood := { row := viewEvaluatesUptoRow, standIns := [], harness := (true, "c80d54d4704c55c2d000315095091efe0e8aa4354df69bd693e01600fd0a3870"), looks := false }, kinds := [], alts := [], laidByText := true, laidKinds := [.data, .pinned], laidTests := true, laidLooks := .later }
def ViewEvaluatesUptoCardSaid : Prop := Claim7.holds Tryz.pinned (.plain (OpenSpec.upto viewEvaluatesSpec)) viewEvaluatesUptoCard

/-- THE SECOND FORM's CARD OF 'tablefinderlaw34.ViewFilters'. -/
def viewFiltersUptoCard : Claim7 := { stood := { row := viewFiltersUptoRow, standIns := [], harness := (true, "c80d54d4704c55c2d000315095091efe0e8aa4354df69bd693e01600fd0a3870"), looks := false }, kinds := [], alts := [], laidByText := true, laidKinds := [.data, .pinned], laidTests := true, laidLooks := .later }
def ViewFiltersUptoCardSaid : Prop := Claim7.holds Tryz.pinned (.plain (OpenSpec.upto viewFiltersSpec)) viewFiltersUptoCard

/-- THE SECOND FORM's CARD OF 'tablefinderlaw34.ViewTwice'. -/
def viewTwiceUptoCard : Claim7 := { stood := { row := viewTwiceUptoRow, standIns := [], harness := (true, "c80d54d4704c55c2d000315095091efe0e8aa4354df69bd693e01600fd0a3870"), looks := false }, kinds := [], alts := [], laidByText := true, laidKinds := [.data, .pinned], laidTests := true, laidLooks := .later }
def ViewTwiceUptoCardSaid : Prop := Claim7.holds Tryz.pinned (.plain (OpenSpec.upto viewTwiceSpec)) viewTwiceUptoCard

/-- THE SECOND FORM's CARD OF 'tablefinderlaw35.ExampleFinds'. -/
def exampleFindsUptoCard : Claim7 := { stood := { row := exampleFindsUptoRow, standIns := [], harness := (true, "c80d54d4704c55c2d000315095091efe0e8aa4354df69bd693e01600fd0a3870"), looks := false }, kinds := [], alts := [], laidByText := true, laidKinds := [.data, .pinned], laidTests := true, laidLooks := .later }
def ExampleFindsUptoCardSaid : Prop := Claim7.holds Tryz.pinned (.plain (OpenSpec.upto exampleFindsSpec)) exampleFindsUptoCard

/-- THE SECOND FORM's CARD OF 'tablefinderlaw35.ExampleHolds'. -/
def exampleHoldsUptoCard : Claim7 := { stood := { row := exampleHoldsUptoRow, standIns := [], harness := (true, "c80d54d4704c55c2d000315095091efe0e8aa4354df69bd693e01600fd0a3870"), looks := false }, kinds := [], alts := [], laidByText := true, laidKinds := [.data, .pinned], laidTests := true, laidLooks := .later }
def ExampleHoldsUptoCardSaid : Prop := Claim7.holds Tryz.pinned (.plain (OpenSpec.upto exampleHoldsSpec)) exampleHoldsUptoCard

/-- THE SECOND FORM's CARD OF 'tablefinderlaw35.ExampleSelf'. -/
def exampleSelfUptoCard : Claim7 := { stood := { row := exampleSelfUptoRow, standIns := [], harness := (true, "c80d54d4704c55c2d000315095091efe0e8aa4354df69bd693e01600fd0a3870"), looks := false }, kinds := [], alts := [], laidByText := true, laidKinds := [.data, .pinned], laidTests := true, laidLooks := .later }
def ExampleSelfUptoCardSaid : Prop := Claim7.holds Tryz.pinned (.plain (OpenSpec.upto exampleSelfSpec)) exampleSelfUptoCard

/-- THE SECOND FORM's CARD OF 'tablefinderlaw35.ExampleAny'. -/
def exampleAnyUptoCard : Claim7 := { stood := { row := exampleAnyUptoRow, standIns := [], harness := (true, "c80d54d4704c55c2d000315095091efe0e8aa4354df69bd693e01600fd0a3870"), looks := false }, kinds := [], alts := [], laidByText := true, laidKinds := [.data, .data, .data, .data, .pinned], laidTests := true, laidLooks := .later }
def ExampleAnyUptoCardSaid : Prop := Claim7.holds Tryz.pinned (.plain (OpenSpec.upto exampleAnySpec)) exampleAnyUptoCard
end Rows
end Go.Proofs.YthmohnenobkmcaaGreatDoor
