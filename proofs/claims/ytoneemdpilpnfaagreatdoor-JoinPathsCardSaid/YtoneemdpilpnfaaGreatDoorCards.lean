/-
  DERIVED. GIVEN WITH THE SEED: THE CARDS: each row of YtoneemdpilpnfaaGreatDoorRows.lean that lists a variable, with what it lists TIED to the program's text (the seventh form; the later family's looks); each row that meets fmt, with fmt's text TOLD by the authors' own Lean function (tested against real Go, not proved from fmt's source: count such statements apart). THE CARD IS WHAT COUNTS. Prove the row's statement (the work); the ties are given (YtoneemdpilpnfaaGreatDoorTie.lean); close each card by the builder's one call (the guide's Derived/Test/ToyasCard.lean, 'card_holds'). Laid BY PROGRAM, IN A SANDBOX (cutbox-door.mjs). By AI agents, Wed Nov 11 2026. No macro, syntax, notation, axiom, sorry.
-/
import Derived.Test.YtoneemdpilpnfaaGreatDoorRows
import GoSem.ClaimSeven
namespace Go.Proofs.YtoneemdpilpnfaaGreatDoor
namespace Rows

/-- THE TIED CARD OF 'tablefinderlaw32.PathReports'. -/
def pathReportsCard : Claim7 := { stood := { row := pathReportsRow, standIns := [], harness := (true, "61ff827e11218ed406d27735ed1f2bc9e42a7bcdab55cb9d5dc21d999cc988f0"), looks := false }, kinds := [], alts := [], laidByText := true, laidKinds := [.data, .pinned], laidTests := true, laidLooks := .later }
def PathReportsCardSaid : Prop := Claim7.holds Tryz.pinned (.plain (OpenSpec.ofChange pathReportsSpec)) pathReportsCard

/-- THE TIED CARD OF 'tablefinderlaw31.JoinPaths'. -/
def joinPathsCard : Claim7 := { stood := { row := joinPathsRow, standIns := [], harness := (true, "61ff827e11218ed406d27735ed1f2bc9e42a7bcdab55cb9d5dc21d999cc988f0"), looks := false }, kinds := [], alts := [], laidByText := true, laidKinds := [.data, .pinned], laidTests := true, laidLooks := .later }
def JoinPathsCardSaid : Prop := Claim7.holds Tryz.pinned (.plain (OpenSpec.ofChange joinPathsSpec)) joinPathsCard

/-- THE SECOND FORM's CARD OF 'tablefinderlaw32.PathReports'. -/
def pathReportsUptoCard : Claim7 := { stood := { row := pathReportsUptoRow, standIns := [], harness := (true, "61ff827e11218ed406d27735ed1f2bc9e42a7bcdab55cb9d5dc21d999cc988f0"), looks := false }, kinds := [], alts := [], laidByText := true, laidKinds := [.data, .pinned], laidTests := true, laidLooks := .later }
def PathReportsUptoCardSaid : Prop := Claim7.holds Tryz.pinned (.plain (OpenSpec.upto pathReportsSpec)) pathReportsUptoCard

/-- THE SECOND FORM's CARD OF 'tablefinderlaw31.JoinPaths'. -/
def joinPathsUptoCard : Claim7 := { stood := { row := joinPathsUptoRow, standIns := [], harness := (true, "61ff827e11218ed406d27735ed1f2bc9e42a7bcdab55cb9d5dc21d999cc988f0"), looks := false }, kinds := [], alts := [], laidByText := true, laidKinds := [.data, .pinned], laidTests := true, laidLooks := .later }
def JoinPathsUptoCardSaid : Prop := Claim7.holds Tryz.pinned (.plain (OpenSpec.upto joinPathsSpec)) joinPathsUptoCard
end Rows
end Go.Proofs.YtoneemdpilpnfaaGreatDoor
