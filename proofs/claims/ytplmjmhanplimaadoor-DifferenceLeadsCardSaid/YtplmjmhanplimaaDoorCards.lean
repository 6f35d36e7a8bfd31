/-
  DERIVED. GIVEN WITH THE SEED: THE CARDS: each row of YtplmjmhanplimaaDoorRows.lean that lists a variable, with what it lists TIED to the program's text (the seventh form; the later family's looks); each row that meets fmt, with fmt's text TOLD by the authors' own Lean function (tested against real Go, not proved from fmt's source: count such statements apart). THE CARD IS WHAT COUNTS. Prove the row's statement (the work); the ties are given (YtplmjmhanplimaaDoorTie.lean); close each card by the builder's one call (the guide's Derived/Test/ToyasCard.lean, 'card_holds'). Laid BY PROGRAM, IN A SANDBOX (cutbox-door.mjs). By AI agents, Wed Nov 11 2026. No macro, syntax, notation, axiom, sorry.
-/
import Derived.Test.YtplmjmhanplimaaDoorRows
import GoSem.ClaimSeven
namespace Go.Proofs.YtplmjmhanplimaaDoor
namespace Rows

/-- THE TIED CARD OF 'tablefinderlaw37.DifferenceChain'. -/
def differenceChainCard : Claim7 := { stood := { row := differenceChainRow, standIns := [], harness := (true, "f203ac553b4f1cddf5d05f4625c1d3f1d8f0f54db054dcc8966ea2f0f772ba3e"), looks := false }, kinds := [], alts := [], laidByText := true, laidKinds := [.data, .pinned], laidTests := true, laidLooks := .later }
def DifferenceChainCardSaid : Prop := Claim7.holds Tryd.pinned (.plain (OpenSpec.ofChange differenceChainSpec)) differenceChainCard

/-- THE TIED CARD OF 'tablefinderlaw37.DifferenceOther'. -/
def differenceOtherCard : Claim7 := { stood := { row := differenceOtherRow, standIns := [], harness := (true, "f203ac553b4f1cddf5d05f4625c1d3f1d8f0f54db054dcc8966ea2f0f772ba3e"), looks := false }, kinds := [], alts := [], laidByText := true, laidKinds := [.data, .pinned], laidTests := true, laidLooks := .later }
def DifferenceOtherCardSaid : Prop := Claim7.holds Tryd.pinned (.plain (OpenSpec.ofChange differenceOtherSpec)) differenceOtherCard

/-- THE TIED CARD OF 'tablefinderlaw37.DifferenceApplies'. -/
def differenceAppliesCard : Claim7 := { stood := { row := differenceAppliesRow, standIns := [], harness := (true, "f203ac553b4f1cddf5d05f4625c1d3f1d8f0f54db054dcc8966ea2f0f772ba3e"), looks := false }, kinds := [], alts := [], laidByText := true, laidKinds := [.data, .pinned], laidTests := true, laidLooks := .later }
def DifferenceAppliesCardSaid : Prop := Claim7.holds Tryd.pinned (.plain (OpenSpec.ofChange differenceAppliesSpec)) differenceAppliesCard

/-- THE TIED CARD OF 'tablefinderlaw37.DifferenceLeads'. -/
def differenceLeadsCard : Claim7 := { stood := { row := differenceLeadsRow, standIns := [], harness := (true, "f203ac553b4f1cddf5d05f4625c1d3f1d8f0f54db054dcc8966ea2f0f772ba3e"), looks := false }, kinds := [], alts := [], laidByText := true, laidKinds := [.data, .pinned], laidTests := true, laidLooks := .later }
def DifferenceLeadsCardSaid : Prop := Claim7.holds Tryd.pinned (.plain (OpenSpec.ofChange differenceLeadsSpec)) differenceLeadsCard

/-- THE TIED CARD OF 'tablefinderlaw41.SnapshotOnce'. -/
def snapshotOnceCard : Claim7 := { stood := { row := snapshotOnceRow, standIns := [], harness := (true, "f203ac553b4f1cddf5d05f4625c1d3f1d8f0f54db054dcc8966ea2f0f772ba3e"), looks := false }, kinds := [], alts := [], laidByText := true, laidKinds := [.data, .data, .data, .data, .pinned], laidTests := true, laidLooks := .later }
def SnapshotOnceCardSaid : Prop := Claim7.holds Tryd.pinned (.plain (OpenSpec.ofChange snapshotOnceSpec)) snapshotOnceCard

/-- THE TIED CARD OF 'tablefinderlaw41.SnapshotForgets'. -/
def snapshotForgetsCard : Claim7 := { stood := { row := snapshotForgetsRow, standIns := [], harness := (true, "f203ac553b4f1cddf5d05f4625c1d3f1d8f0f54db054dcc8966ea2f0f772ba3e"), looks := false }, kinds := [], alts := [], laidByText := true, laidKinds := [.data, .data, .data, .data, .pinned], laidTests := true, laidLooks := .later }
def SnapshotForgetsCardSaid : Prop := Claim7.holds Tryd.pinned (.plain (OpenSpec.ofChange snapshotForgetsSpec)) snapshotForgetsCard

/-- THE TIED CARD OF 'tablefinderlaw41.SnapshotActs'. -/
def snapshotActsCard : Claim7 := { stood := { row := snapshotActsRow, standIns := [], harness := (true, "f203ac553b4f1cddf5d05f4625c1d3f1d8f0f54db054dcc8966ea2f0f772ba3e"), looks := false }, kinds := [], alts := [], laidByText := true, laidKinds := [.data, .data, .data, .data, .pinned], laidTests := true, laidLooks := .later }
def SnapshotActsCardSaid : Prop := Claim7.holds Tryd.pinned (.plain (OpenSpec.ofChange snapshotActsSpec)) snapshotActsCard

/-- THE TIED CARD OF 'tablefinderlaw41.SnapshotStays'. -/
def snapshotStaysCard : Claim7 := { stood := { row := snapshotStaysRow, standIns := [], harness := (true, "f203ac553b4f1cddf5d05f4625c1d3f1d8f0f54db054dcc8966ea2f0f772ba3e"), looks := false }, kinds := [], alts := [], laidByText := true, laidKinds := [.data, .data, .data, .data, .pinned], laidTests := true, laidLooks := .later }
def SnapshotStaysCardSaid : Prop := Claim7.holds Tryd.pinned (.plain (OpenSpec.ofChange snapshotStaysSpec)) snapshotStaysCard

/-- THE SECOND FORM's CARD OF 'tablefinderlaw37.DifferenceChain'. -/
def differenceChainUptoCard : Claim7 := { stood := { row := differenceChainUptoRow, standIns := [], harness := (true, "f203ac553b4f1cddf5d05f4625c1d3f1d8f0f54db054dcc8966ea2f0f772ba3e"), looks := false }, kinds := [], alts := [], laidByText := true, laidKinds := [.data, .pinned], laidTests := true, laidLooks := .later }
def DifferenceChainUptoCardSaid : Prop := Claim7.holds Tryd.pinned (.plain (OpenSpec.upto differenceChainSpec)) differenceChainUptoCard

/-- THE SECOND FORM's CARD OF 'tablefinderlaw37.DifferenceOther'. -/
def differenceOtherUptoCard : Claim7 := { stood := { row := differenceOtherUptoRow, standIns := [], harness := (true, "f203ac553b4f1cddf5d05f4625c1d3f1d8f0f54db054dcc8966ea2f0f772ba3e"), looks := false }, kinds := [], alts := [], laidByText := true, laidKinds := [.data, .pinned], laidTests := true, laidLooks := .later }
def DifferenceOtherUptoCardSaid : Prop := Claim7.holds Tryd.pinned (.plain (OpenSpec.upto differenceOtherSpec)) differenceOtherUptoCard

/-- THE SECOND FORM's CARD OF 'tablefinderlaw37.DifferenceApplies'. -/
def differenceAppliesUptoCard : Claim7 := { stood := { row := differenceAppliesUptoRow, standIns := [], harness := (true, "f203ac553b4f1cddf5d05f4625c1d3f1d8f0f54db054dcc8966ea2f0f772ba3e"), looks := false }, kinds := [], alts := [], laidByText := true, laidKinds := [.data, .pinned], laidTests := true, laidLooks := .later }
def DifferenceAppliesUptoCardSaid : Prop := Claim7.holds Tryd.pinned (.plain (OpenSpec.upto differenceAppliesSpec)) differenceAppliesUptoCard

/-- THE SECOND FORM's CARD OF 'tablefinderlaw37.DifferenceLeads'. -/
def differenceLeadsUptoCard : Claim7 := { stood := { row := differenceLeadsUptoRow, standIns := [], harness := (true, "f203ac553b4f1cddf5d05f4625c1d3f1d8f0f54db054dcc8966ea2f0f772ba3e"), looks := false }, kinds := [], alts := [], laidByText := true, laidKinds := [.data, .pinned], laidTests := true, laidLooks := .later }
def DifferenceLeadsUptoCardSaid : Prop := Claim7.holds Tryd.pinned (.plain (OpenSpec.upto differenceLeadsSpec)) differenceLeadsUptoCard

/-- THE SECOND FORM's CARD OF 'tablefinderlaw41.SnapshotOnce'. -/
def snapshotOnceUptoCard : Claim7 := { stood := { row := snapshotOnceUptoRow, standIns := [], harness := (true, "f203ac553b4f1cddf5d05f4625c1d3f1d8f0f54db054dcc8966ea2f0f772ba3e"), looks := false }, kinds := [], alts := [], laidByText := true, laidKinds := [.data, .data, .data, .data, .pinned], laidTests := true, laidLooks := .later }
def SnapshotOnceUptoCardSaid : Prop := Claim7.holds Tryd.pinned (.plain (OpenSpec.upto snapshotOnceSpec)) snapshotOnceUptoCard

/-- THE SECOND FORM's CARD OF 'tablefinderlaw41.SnapshotForgets'. -/
def snapshotForgetsUptoCard : Claim7 := { stood := { row := snapshotForgetsUptoRow, standIns := [], harness := (true, "f203ac553b4f1cddf5d05f4625c1d3f1d8f0f54db054dcc8966ea2f0f772ba3e"), looks := false }, kinds := [], alts := [], laidByText := true, laidKinds := [.data, .data, .data, .data, .pinned], laidTests := true, laidLooks := .later }
def SnapshotForgetsUptoCardSaid : Prop := Claim7.holds Tryd.pinned (.plain (OpenSpec.upto snapshotForgetsSpec)) snapshotForgetsUptoCard

/-- THE SECOND FORM's CARD OF 'tablefinderlaw41.SnapshotActs'. -/
def snapshotActsUptoCard : Claim7 := { stood := { row := snapshotActsUptoRow, standIns := [], harness := (true, "f203ac553b4f1cddf5d05f4625c1d3f1d8f0f54db054dcc8966ea2f0f772ba3e"), looks := false }, kinds := [], alts := [], laidByText := true, laidKinds := [.data, .data, .data, .data, .pinned], laidTests := true, laidLooks := .later }
def SnapshotActsUptoCardSaid : Prop := Claim7.holds Tryd.pinned (.plain (OpenSpec.upto snapshotActsSpec)) snapshotActsUptoCard

/-- THE SECOND FORM's CARD OF 'tablefinderlaw41.SnapshotStays'. -/
def snapshotStaysUptoCard : Claim7 := { stood := { row := snapshotStaysUptoRow, standIns := [], harness := (true, "f203ac553b4f1cddf5d05f4625c1d3f1d8f0f54db054dcc8966ea2f0f772ba3e"), looks := false }, kinds := [], alts := [], laidByText := true, laidKinds := [.data, .data, .data, .data, .pinned], laidTests := true, laidLooks := .later }
def SnapshotStaysUptoCardSaid : Prop := Claim7.holds Tryd.pinned (.plain (OpenSpec.upto snapshotStaysSpec)) snapshotStaysUptoCard
end Rows
end Go.Proofs.YtplmjmhanplimaaDoor
