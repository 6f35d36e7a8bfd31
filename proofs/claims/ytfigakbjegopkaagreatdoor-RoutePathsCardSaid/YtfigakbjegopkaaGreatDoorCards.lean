/-
  DERIVED. GIVEN WITH THE SEED: THE CARDS: each row of YtfigakbjegopkaaGreatDoorRows.lean that lists a variable, with what it lists TIED to the program's text (the seventh form; the later family's looks); each row that meets fmt, with fmt's text TOLD by the authors' own Lean function (tested against real Go, not proved from fmt's source: count such statements apart). THE CARD IS WHAT COUNTS. Prove the row's statement (the work); the ties are given (YtfigakbjegopkaaGreatDoorTie.lean); close each card by the builder's one call (the guide's Derived/Test/ToyasCard.lean, 'card_holds'). Laid BY PROGRAM, IN A SANDBOX (cutbox-door.mjs). By AI agents, Wed Nov 11 2026. No macro, syntax, notation, axiom, sorry.
-/
import Derived.Test.YtfigakbjegopkaaGreatDoorRows
import GoSem.ClaimSeven
namespace Go.Proofs.YtfigakbjegopkaaGreatDoor
namespace Rows

/-- THE TIED CARD OF 'tablefinderlaw33.RoutePaths'. -/
def routePathsCard : Claim7 := { stood := { row := routePathsRow, standIns := [], harness := (true, "795f8294be1a979370489532d47da4b2742627cc1f9aa7fea3eca29719abc22c"), looks := false }, kinds := [], alts := [], laidByText := true, laidKinds := [.data, .pinned], laidTests := true, laidLooks := .later }
def RoutePathsCardSaid : Prop := Claim7.holds Tryz.pinned (.plain (OpenSpec.ofChange routePathsSpec)) routePathsCard

/-- THE SECOND FORM's CARD OF 'tablefinderlaw33.RoutePaths'. -/
def routePathsUptoCard : Claim7 := { stood := { row := routePathsUptoRow, standIns := [], harness := (true, "795f8294be1a979370489532d47da4b2742627cc1f9aa7fea3eca29719abc22c"), looks := false }, kinds := [], alts := [], laidByText := true, laidKinds := [.data, .pinned], laidTests := true, laidLooks := .later }
def RoutePathsUptoCardSaid : Prop := Claim7.holds Tryz.pinned (.plain (OpenSpec.upto routePathsSpec)) routePathsUptoCard
end Rows
end Go.Proofs.YtfigakbjegopkaaGreatDoor
