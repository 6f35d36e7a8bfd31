/-
  DERIVED. GIVEN WITH THE SEED: THE CARDS: each row of YtjklpocgdppmdaaDoorRows.lean that lists a variable, with what it lists TIED to the program's text (the seventh form; the later family's looks); each row that meets fmt, with fmt's text TOLD by the authors' own Lean function (tested against real Go, not proved from fmt's source: count such statements apart). THE CARD IS WHAT COUNTS. Prove the row's statement (the work); the ties are given (YtjklpocgdppmdaaDoorTie.lean); close each card by the builder's one call (the guide's Derived/Test/ToyasCard.lean, 'card_holds'). Laid BY PROGRAM, IN A SANDBOX (cutbox-door.mjs). By AI agents, Wed Nov 11 2026. No macro, syntax, notation, axiom, sorry.
-/
import Derived.Test.YtjklpocgdppmdaaDoorRows
import GoSem.ClaimSeven
namespace Go.Proofs.YtjklpocgdppmdaaDoor
namespace Rows

/-- THE TIED CARD OF 'tablefinderlaw31.JoinTurns'. -/
def joinTurnsCard : Claim7 := { stood := { row := joinTurnsRow, standIns := [], harness := (true, "d8c36218e7dfb285c0dfad6df5e2956e8998bf996bfaab18e456997864abf0ad"), looks := false }, kinds := [], alts := [], laidByText := true, laidKinds := [.data, .pinned], laidTests := true, laidLooks := .later }
def JoinTurnsCardSaid : Prop := Claim7.holds Tryd.pinned (.plain (OpenSpec.ofChange joinTurnsSpec)) joinTurnsCard

/-- THE SECOND FORM's CARD OF 'tablefinderlaw31.JoinTurns'. -/
def joinTurnsUptoCard : Claim7 := { stood := { row := joinTurnsUptoRow, standIns := [], harness := (true, "d8c36218e7dfb285c0dfad6df5e2956e8998bf996bfaab18e456997864abf0ad"), looks := false }, kinds := [], alts := [], laidByText := true, laidKinds := [.data, .pinned], laidTests := true, laidLooks := .later }
def JoinTurnsUptoCardSaid : Prop := Claim7.holds Tryd.pinned (.plain (OpenSpec.upto joinTurnsSpec)) joinTurnsUptoCard
end Rows
end Go.Proofs.YtjklpocgdppmdaaDoor
