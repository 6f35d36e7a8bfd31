/-
  DERIVED. GIVEN WITH THE SEED: THE CARDS: each row of YtpfmjfjfakfbhaaDoorRows.lean that lists a variable, with what it lists TIED to the program's text (the seventh form; the later family's looks); each row that meets fmt, with fmt's text TOLD by the authors' own Lean function (tested against real Go, not proved from fmt's source: count such statements apart). THE CARD IS WHAT COUNTS. Prove the row's statement (the work); the ties are given (YtpfmjfjfakfbhaaDoorTie.lean); close each card by the builder's one call (the guide's Derived/Test/ToyasCard.lean, 'card_holds'). Laid BY PROGRAM, IN A SANDBOX (cutbox-door.mjs). By AI agents, Wed Nov 11 2026. No macro, syntax, notation, axiom, sorry.
-/
import Derived.Test.YtpfmjfjfakfbhaaDoorRows
import GoSem.ClaimSeven
namespace Go.Proofs.YtpfmjfjfakfbhaaDoor
namespace Rows

/-- THE TIED CARD OF 'tablefinderlaw31.JoinTwo'. -/
def joinTwoCard : Claim7 := { stood := { row := joinTwoRow, standIns := [], harness := (true, "d7fc8cbc475603e3d3d91eb98b930f563edb5589d523a3158cf3fe7a062877d1"), looks := false }, kinds := [], alts := [], laidByText := true, laidKinds := [.data, .data, .data, .data, .pinned], laidTests := true, laidLooks := .later }
def JoinTwoCardSaid : Prop := Claim7.holds Tryd.pinned (.plain (OpenSpec.ofChange joinTwoSpec)) joinTwoCard

/-- THE SECOND FORM's CARD OF 'tablefinderlaw31.JoinTwo'. -/
def joinTwoUptoCard : Claim7 := { stood := { row := joinTwoUptoRow, standIns := [], harness := (true, "d7fc8cbc475603e3d3d91eb98b930f563edb5589d523a3158cf3fe7a062877d1"), looks := false }, kinds := [], alts := [], laidByText := true, laidKinds := [.data, .data, .data, .data, .pinned], laidTests := true, laidLooks := .later }
def JoinTwoUptoCardSaid : Prop := Claim7.holds Tryd.pinned (.plain (OpenSpec.upto joinTwoSpec)) joinTwoUptoCard
end Rows
end Go.Proofs.YtpfmjfjfakfbhaaDoor
