/-
  DERIVED. GIVEN WITH THE SEED: THE CARDS: each row of YtoneemdpilpnfaaDoorRows.lean that lists a variable, with what it lists TIED to the program's text (the seventh form; the later family's looks); each row that meets fmt, with fmt's text TOLD by the authors' own Lean function (tested against real Go, not proved from fmt's source: count such statements apart). THE CARD IS WHAT COUNTS. Prove the row's statement (the work); the ties are given (YtoneemdpilpnfaaDoorTie.lean); close each card by the builder's one call (the guide's Derived/Test/ToyasCard.lean, 'card_holds'). Laid BY PROGRAM, IN A SANDBOX (cutbox-door.mjs). By AI agents, Wed Nov 11 2026. No macro, syntax, notation, axiom, sorry.
-/
import Derived.Test.YtoneemdpilpnfaaDoorRows
import GoSem.ClaimSeven
namespace Go.Proofs.YtoneemdpilpnfaaDoor
namespace Rows

/-- THE TIED CARD OF 'tablefinderlaw32.PathSteps'. -/
def pathStepsCard : Claim7 := { stood := { row := pathStepsRow, standIns := [], harness := (true, "b8e99c49a42f6e322f98a4e2f3f4407b08b2943d23acefbbc39cd7c9d59e4572"), looks := false }, kinds := [], alts := [], laidByText := true, laidKinds := [.data, .pinned], laidTests := true, laidLooks := .later }
def PathStepsCardSaid : Prop := Claim7.holds Tryd.pinned (.plain (OpenSpec.ofChange pathStepsSpec)) pathStepsCard

/-- THE TIED CARD OF 'tablefinderlaw32.PathTurns'. -/
def pathTurnsCard : Claim7 := { stood := { row := pathTurnsRow, standIns := [], harness := (true, "b8e99c49a42f6e322f98a4e2f3f4407b08b2943d23acefbbc39cd7c9d59e4572"), looks := false }, kinds := [], alts := [], laidByText := true, laidKinds := [.data, .pinned], laidTests := true, laidLooks := .later }
def PathTurnsCardSaid : Prop := Claim7.holds Tryd.pinned (.plain (OpenSpec.ofChange pathTurnsSpec)) pathTurnsCard

/-- THE TIED CARD OF 'tablefinderlaw32.PathMany'. -/
def pathManyCard : Claim7 := { stood := { row := pathManyRow, standIns := [], harness := (true, "b8e99c49a42f6e322f98a4e2f3f4407b08b2943d23acefbbc39cd7c9d59e4572"), looks := false }, kinds := [], alts := [], laidByText := true, laidKinds := [.data, .pinned], laidTests := true, laidLooks := .later }
def PathManyCardSaid : Prop := Claim7.holds Tryd.pinned (.plain (OpenSpec.ofChange pathManySpec)) pathManyCard

/-- THE TIED CARD OF 'tablefinderlaw32.PathJoins'. -/
def pathJoinsCard : Claim7 := { stood := { row := pathJoinsRow, standIns := [], harness := (true, "b8e99c49a42f6e322f98a4e2f3f4407b08b2943d23acefbbc39cd7c9d59e4572"), looks := false }, kinds := [], alts := [], laidByText := true, laidKinds := [.data, .pinned], laidTests := true, laidLooks := .later }
def PathJoinsCardSaid : Prop := Claim7.holds Tryd.pinned (.plain (OpenSpec.ofChange pathJoinsSpec)) pathJoinsCard

/-- THE TIED CARD OF 'tablefinderlaw31.JoinNulls'. -/
def joinNullsCard : Claim7 := { stood := { row := joinNullsRow, standIns := [], harness := (true, "b8e99c49a42f6e322f98a4e2f3f4407b08b2943d23acefbbc39cd7c9d59e4572"), looks := false }, kinds := [], alts := [], laidByText := true, laidKinds := [.data, .pinned], laidTests := true, laidLooks := .later }
def JoinNullsCardSaid : Prop := Claim7.holds Tryd.pinned (.plain (OpenSpec.ofChange joinNullsSpec)) joinNullsCard

/-- THE TIED CARD OF 'tablefinderlaw31.JoinTurns'. -/
def joinTurnsCard : Claim7 := { stood := { row := joinTurnsRow, standIns := [], harness := (true, "b8e99c49a42f6e322f98a4e2f3f4407b08b2943d23acefbbc39cd7c9d59e4572"), looks := false }, kinds := [], alts := [], laidByText := true, laidKinds := [.data, .pinned], laidTests := true, laidLooks := .later }
def JoinTurnsCardSaid : Prop := Claim7.holds Tryd.pinned (.plain (OpenSpec.ofChange joinTurnsSpec)) joinTurnsCard

/-- THE TIED CARD OF 'tablefinderlaw31.JoinMany'. -/
def joinManyCard : Claim7 := { stood := { row := joinManyRow, standIns := [], harness := (true, "b8e99c49a42f6e322f98a4e2f3f4407b08b2943d23acefbbc39cd7c9d59e4572"), looks := false }, kinds := [], alts := [], laidByText := true, laidKinds := [.data, .pinned], laidTests := true, laidLooks := .later }
def JoinManyCardSaid : Prop := Claim7.holds Tryd.pinned (.plain (OpenSpec.ofChange joinManySpec)) joinManyCard

/-- THE TIED CARD OF 'tablefinderlaw31.JoinFits'. -/
def joinFitsCard : Claim7 := { stood := { row := joinFitsRow, standIns := [], harness := (true, "b8e99c49a42f6e322f98a4e2f3f4407b08b2943d23acefbbc39cd7c9d59e4572"), looks := false }, kinds := [], alts := [], laidByText := true, laidKinds := [.data, .pinned], laidTests := true, laidLooks := .later }
def JoinFitsCardSaid : Prop := Claim7.holds Tryd.pinned (.plain (OpenSpec.ofChange joinFitsSpec)) joinFitsCard

/-- THE TIED CARD OF 'tablefinderlaw31.JoinOne'. -/
def joinOneCard : Claim7 := { stood := { row := joinOneRow, standIns := [], harness := (true, "b8e99c49a42f6e322f98a4e2f3f4407b08b2943d23acefbbc39cd7c9d59e4572"), looks := false }, kinds := [], alts := [], laidByText := true, laidKinds := [.data, .pinned], laidTests := true, laidLooks := .later }
def JoinOneCardSaid : Prop := Claim7.holds Tryd.pinned (.plain (OpenSpec.ofChange joinOneSpec)) joinOneCard

/-- THE TIED CARD OF 'tablefinderlaw31.JoinTwo'. -/
def joinTwoCard : Claim7 := { stood := { row := joinTwoRow, standIns := [], harness := (true, "b8e99c49a42f6e322f98a4e2f3f4407b08b2943d23acefbbc39cd7c9d59e4572"), looks := false }, kinds := [], alts := [], laidByText := true, laidKinds := [.data, .data, .data, .data, .pinned], laidTests := true, laidLooks := .later }
def JoinTwoCardSaid : Prop := Claim7.holds Tryd.pinned (.plain (OpenSpec.ofChange joinTwoSpec)) joinTwoCard

/-- THE SECOND FORM's CARD OF 'tablefinderlaw32.PathSteps'. -/
def pathStepsUptoCard : Claim7 := { stood := { row := pathStepsUptoRow, standIns := [], harness := (true, "b8e99c49a42f6e322f98a4e2f3f4407b08b2943d23acefbbc39cd7c9d59e4572"), looks := false }, kinds := [], alts := [], laidByText := true, laidKinds := [.data, .pinned], laidTests := true, laidLooks := .later }
def PathStepsUptoCardSaid : Prop := Claim7.holds Tryd.pinned (.plain (OpenSpec.upto pathStepsSpec)) pathStepsUptoCard

/-- THE SECOND FORM's CARD OF 'tablefinderlaw32.PathTurns'. -/
def pathTurnsUptoCard : Claim7 := { stood := { row := pathTurnsUptoRow, standIns := [], harness := (true, "b8e99c49a42f6e322f98a4e2f3f4407b08b2943d23acefbbc39cd7c9d59e4572"), looks := false }, kinds := [], alts := [], laidByText := true, laidKinds := [.data, .pinned], laidTests := true, laidLooks := .later }
def PathTurnsUptoCardSaid : Prop := Claim7.holds Tryd.pinned (.plain (OpenSpec.upto pathTurnsSpec)) pathTurnsUptoCard

/-- THE SECOND FORM's CARD OF 'tablefinderlaw32.PathMany'. -/
def pathManyUptoCard : Claim7 := { stood := { row := pathManyUptoRow, standIns := [], harness := (true, "b8e99c49a42f6e322f98a4e2f3f4407b08b2943d23acefbbc39cd7c9d59e4572"), looks := false }, kinds := [], alts := [], laidByText := true, laidKinds := [.data, .pinned], laidTests := true, laidLooks := .later }
def PathManyUptoCardSaid : Prop := Claim7.holds Tryd.pinned (.plain (OpenSpec.upto pathManySpec)) pathManyUptoCard

/-- THE SECOND FORM's CARD OF 'tablefinderlaw32.PathJoins'. -/
def pathJoinsUptoCard : Claim7 := { stood := { row := pathJoinsUptoRow, standIns := [], harness := (true, "b8e99c49a42f6e322f98a4e2f3f4407b08b2943d23acefbbc39cd7c9d59e4572"), looks := false }, kinds := [], alts := [], laidByText := true, laidKinds := [.data, .pinned], laidTests := true, laidLooks := .later }
def PathJoinsUptoCardSaid : Prop := Claim7.holds Tryd.pinned (.plain (OpenSpec.upto pathJoinsSpec)) pathJoinsUptoCard

/-- THE SECOND FORM's CARD OF 'tablefinderlaw31.JoinNulls'. -/
def joinNullsUptoCard : Claim7 := { stood := { row := joinNullsUptoRow, standIns := [], harness := (true, "b8e99c49a42f6e322f98a4e2f3f4407b08b2943d23acefbbc39cd7c9d59e4572"), looks := false }, kinds := [], alts := [], laidByText := true, laidKinds := [.data, .pinned], laidTests := true, laidLooks := .later }
def JoinNullsUptoCardSaid : Prop := Claim7.holds Tryd.pinned (.plain (OpenSpec.upto joinNullsSpec)) joinNullsUptoCard

/-- THE SECOND FORM's CARD OF 'tablefinderlaw31.JoinTurns'. -/
def joinTurnsUptoCard : Claim7 := { stood := { row := joinTurnsUptoRow, standIns := [], harness := (true, "b8e99c49a42f6e322f98a4e2f3f4407b08b2943d23acefbbc39cd7c9d59e4572"), looks := false }, kinds := [], alts := [], laidByText := true, laidKinds := [.data, .pinned], laidTests := true, laidLooks := .later }
def JoinTurnsUptoCardSaid : Prop := Claim7.holds Tryd.pinned (.plain (OpenSpec.upto joinTurnsSpec)) joinTurnsUptoCard

/-- THE SECOND FORM's CARD OF 'tablefinderlaw31.JoinMany'. -/
def joinManyUptoCard : Claim7 := { stood := { row := joinManyUptoRow, standIns := [], harness := (true, "b8e99c49a42f6e322f98a4e2f3f4407b08b2943d23acefbbc39cd7c9d59e4572"), looks := false }, kinds := [], alts := [], laidByText := true, laidKinds := [.data, .pinned], laidTests := true, laidLooks := .later }
def JoinManyUptoCardSaid : Prop := Claim7.holds Tryd.pinned (.plain (OpenSpec.upto joinManySpec)) joinManyUptoCard

/-- THE SECOND FORM's CARD OF 'tablefinderlaw31.JoinFits'. -/
def joinFitsUptoCard : Claim7 := { stood := { row := joinFitsUptoRow, standIns := [], harness := (true, "b8e99c49a42f6e322f98a4e2f3f4407b08b2943d23acefbbc39cd7c9d59e4572"), looks := false }, kinds := [], alts := [], laidByText := true, laidKinds := [.data, .pinned], laidTests := true, laidLooks := .later }
def JoinFitsUptoCardSaid : Prop := Claim7.holds Tryd.pinned (.plain (OpenSpec.upto joinFitsSpec)) joinFitsUptoCard

/-- THE SECOND FORM's CARD OF 'tablefinderlaw31.JoinOne'. -/
def joinOneUptoCard : Claim7 := { stood := { row := joinOneUptoRow, standIns := [], harness := (true, "b8e99c49a42f6e322f98a4e2f3f4407b08b2943d23acefbbc39cd7c9d59e4572"), looks := false }, kinds := [], alts := [], laidByText := true, laidKinds := [.data, .pinned], laidTests := true, laidLooks := .later }
def JoinOneUptoCardSaid : Prop := Claim7.holds Tryd.pinned (.plain (OpenSpec.upto joinOneSpec)) joinOneUptoCard

/-- THE SECOND FORM's CARD OF 'tablefinderlaw31.JoinTwo'. -/
def joinTwoUptoCard : Claim7 := { stood := { row := joinTwoUptoRow, standIns := [], harness := (true, "b8e99c49a42f6e322f98a4e2f3f4407b08b2943d23acefbbc39cd7c9d59e4572"), looks := false }, kinds := [], alts := [], laidByText := true, laidKinds := [.data, .data, .data, .data, .pinned], laidTests := true, laidLooks := .later }
def JoinTwoUptoCardSaid : Prop := Claim7.holds Tryd.pinned (.plain (OpenSpec.upto joinTwoSpec)) joinTwoUptoCard
end Rows
end Go.Proofs.YtoneemdpilpnfaaDoor
