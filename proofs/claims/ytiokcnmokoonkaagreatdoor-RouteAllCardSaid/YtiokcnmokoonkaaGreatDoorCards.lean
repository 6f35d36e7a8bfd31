/-
  DERIVED. GIVEN WITH THE SEED: THE CARDS: each row of YtiokcnmokoonkaaGreatDoorRows.lean that lists a variable, with what it lists TIED to the program's text (the seventh form; the later family's looks); each row that meets fmt, with fmt's text TOLD by the authors' own Lean function (tested against real Go, not proved from fmt's source: count such statements apart). THE CARD IS WHAT COUNTS. Prove the row's statement (the work); the ties are given (YtiokcnmokoonkaaGreatDoorTie.lean); close each card by the builder's one call (the guide's Derived/Test/ToyasCard.lean, 'card_holds'). Laid BY PROGRAM, IN A SANDBOX (cutbox-door.mjs). By AI agents, Wed Nov 11 2026. No macro, syntax, notation, axiom, sorry.
-/
import Derived.Test.YtiokcnmokoonkaaGreatDoorRows
import GoSem.ClaimSeven
namespace Go.Proofs.YtiokcnmokoonkaaGreatDoor
namespace Rows

/-- THE TIED CARD OF 'tablefinderlaw33.RoutePaths'. -/
def routePathsCard : Claim7 := { stood := { row := routePathsRow, standIns := [], harness := (true, "0c8456880e8369c7b62a743279257299ca39a55fb6fcf4686b7ce642bb9e47aa"), looks := false }, kinds := [], alts := [], laidByText := true, laidKinds := [.data, .pinned], laidTests := true, laidLooks := .later }
def RoutePathsCardSaid : Prop := Claim7.holds Tryz.pinned (.plain (OpenSpec.ofChange routePathsSpec)) routePathsCard

/-- THE TIED CARD OF 'tablefinderlaw33.RouteOrder'. -/
def routeOrderCard : Claim7 := { stood := { row := routeOrderRow, standIns := [], harness := (true, "0c8456880e8369c7b62a743279257299ca39a55fb6fcf4686b7ce642bb9e47aa"), looks := false }, kinds := [], alts := [], laidByText := true, laidKinds := [.data, .pinned], laidTests := true, laidLooks := .later }
def RouteOrderCardSaid : Prop := Claim7.holds Tryz.pinned (.plain (OpenSpec.ofChange routeOrderSpec)) routeOrderCard

/-- THE TIED CARD OF 'tablefinderlaw33.RouteAll'. -/
def routeAllCard : Claim7 := { stood := { row := routeAllRow, standIns := [], harness := (true, "0c8456880e8369c7b62a743279257299ca39a55fb6fcf4686b7ce642bb9e47aa"), looks := false }, kinds := [], alts := [], laidByText := true, laidKinds := [.data, .pinned], laidTests := true, laidLooks := .later }
def RouteAllCardSaid : Prop := Claim7.holds Tryz.pinned (.plain (OpenSpec.ofChange routeAllSpec)) routeAllCard

/-- THE TIED CARD OF 'tablefinderlaw33.RouteBest'. -/
def routeBestCard : Claim7 := { stood := { row := routeBestRow, standIns := [], harness := (true, "0c8456880e8369c7b62a743279257299ca39a55fb6fcf4686b7ce642bb9e47aa"), looks := false }, kinds := [], alts := [], laidByText := true, laidKinds := [.data, .pinned], laidTests := true, laidLooks := .later }
def RouteBestCardSaid : Prop := Claim7.holds Tryz.pinned (.plain (OpenSpec.ofChange routeBestSpec)) routeBestCard

/-- THE TIED CARD OF 'tablefinderlaw33.RouteBack'. -/
def routeBackCard : Claim7 := { stood := { row := routeBackRow, standIns := [], harness := (true, "0c8456880e8369c7b62a743279257299ca39a55fb6fcf4686b7ce642bb9e47aa"), looks := false }, kinds := [], alts := [], laidByText := true, laidKinds := [.data, .pinned], laidTests := true, laidLooks := .later }
def RouteBackCardSaid : Prop := Claim7.holds Tryz.pinned (.plain (OpenSpec.ofChange routeBackSpec)) routeBackCard

/-- THE SECOND FORM's CARD OF 'tablefinderlaw33.RoutePaths'. -/
def routePathsUptoCard : Claim7 := { stood := { row := routePathsUptoRow, standIns := [], harness := (true, "0c8456880e8369c7b62a743279257299ca39a55fb6fcf4686b7ce642bb9e47aa"), looks := false }, kinds := [], alts := [], laidByText := true, laidKinds := [.data, .pinned], laidTests := true, laidLooks := .later }
def RoutePathsUptoCardSaid : Prop := Claim7.holds Tryz.pinned (.plain (OpenSpec.upto routePathsSpec)) routePathsUptoCard

/-- THE SECOND FORM's CARD OF 'tablefinderlaw33.RouteOrder'. -/
def routeOrderUptoCard : Claim7 := { stood := { row := routeOrderUptoRow, standIns := [], harness := (true, "0c8456880e8369c7b62a743279257299ca39a55fb6fcf4686b7ce642bb9e47aa"), looks := false }, kinds := [], alts := [], laidByText := true, laidKinds := [.data, .pinned], laidTests := true, laidLooks := .later }
def RouteOrderUptoCardSaid : Prop := Claim7.holds Tryz.pinned (.plain (OpenSpec.upto routeOrderSpec)) routeOrderUptoCard

/-- THE SECOND FORM's CARD OF 'tablefinderlaw33.RouteAll'. -/
def routeAllUptoCard : Claim7 := { stood := { row := routeAllUptoRow, standIns := [], harness := (true, "0c8456880e8369c7b62a743279257299ca39a55fb6fcf4686b7ce642bb9e47aa"), looks := false }, kinds := [], alts := [], laidByText := true, laidKinds := [.data, .pinned], laidTests := true, laidLooks := .later }
def RouteAllUptoCardSaid : Prop := Claim7.holds Tryz.pinned (.plain (OpenSpec.upto routeAllSpec)) routeAllUptoCard

/-- THE SECOND FORM's CARD OF 'tablefinderlaw33.RouteBest'. -/
def routeBestUptoCard : Claim7 := { stood := { row := routeBestUptoRow, standIns := [], harness := (true, "0c8456880e8369c7b62a743279257299ca39a55fb6fcf4686b7ce642bb9e47aa"), looks := false }, kinds := [], alts := [], laidByText := true, laidKinds := [.data, .pinned], laidTests := true, laidLooks := .later }
def RouteBestUptoCardSaid : Prop := Claim7.holds Tryz.pinned (.plain (OpenSpec.upto routeBestSpec)) routeBestUptoCard

/-- THE SECOND FORM's CARD OF 'tablefinderlaw33.RouteBack'. -/
def routeBackUptoCard : Claim7 := { stood := { row := routeBackUptoRow, standIns := [], harness := (true, "0c8456880e8369c7b62a743279257299ca39a55fb6fcf4686b7ce642bb9e47aa"), looks := false }, kinds := [], alts := [], laidByText := true, laidKinds := [.data, .pinned], laidTests := true, laidLooks := .later }
def RouteBackUptoCardSaid : Prop := Claim7.holds Tryz.pinned (.plain (OpenSpec.upto routeBackSpec)) routeBackUptoCard
end Rows
end Go.Proofs.YtiokcnmokoonkaaGreatDoor
