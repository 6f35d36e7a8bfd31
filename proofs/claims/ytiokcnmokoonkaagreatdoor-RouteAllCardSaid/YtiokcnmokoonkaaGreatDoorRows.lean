/-
  NARROWER THAN 'FOR EVERY INPUT', by the rows' own cells (each row's printed sentence says how): RoutePaths: laid · RouteOrder: laid · RouteAll: laid · RouteBest: laid · RouteBack: laid.
  DERIVED. THE GIVEN ROWS OF THIS SEAT. 5 by the template 'for every input the law returns true; each argument reads behind the call as it read before'; 0 by the template 'total and deterministic' (their statements: YtiokcnmokoonkaaGreatDoorTotals.lean).
  GIVEN WITH THE SEED: the statements are not yours to turn. If you find one false, say at which input.
  Laid BY PROGRAM, IN A SANDBOX (cutbox-rows.mjs): the forced cells as the released guide's own fill.sh prints them over the translation 09c18739839b95f1… (all of the seat's roots in one cut). By AI agents, Wed Nov 11 2026. No macro, syntax, notation, axiom, sorry.
-/
import Derived.Test.YtiokcnmokoonkaaGreatDoorChecked
import GoSem.PinnedTables
import GoSem.Claim
import GoSem.ClaimJoined
import GoSem.ClaimMapViews
import Derived.JoinedTies
import Derived.KernelRfl
namespace Go.Proofs.YtiokcnmokoonkaaGreatDoor
/- THE CELL 'sum', in the pinned program and in every row, IS THE sha256 OF THE DUMP (.gsa) THAT YtiokcnmokoonkaaGreatDoorProg.lean LOADS. Nothing in Lean hashes anything: it is a label: what it is worth is what the hold of that sum in a sandbox is worth. -/
noncomputable def Tryz.pinned : Pinned := { name := "ytiokcnmokoonkaagreatdoor", sum := "09c18739839b95f1d1fd4ba62b62ef5cc96d08d77e58c66b4d31e7cfdd4bd566", checked := Tryz.checked }
namespace Rows
def none {H : Type} : Left H := { results := [], args := [] }

/- WHAT THE LISTED PACKAGE-LEVEL VARIABLES READ AS WHEN THE CALL BEGINS. Each datum BY PROGRAM (the guide's laid-datum.mjs) off the statement by which the dump's own 'gosem.cut.vars' lays the variable. In a bare row this is a premise. The card (YtiokcnmokoonkaaGreatDoorCards.lean) ties it to the program's text. -/
def laid_unicode_utf8_acceptRanges {H : Type} : DataW H := .agg [.agg [.lit (.int .u8 128), .lit (.int .u8 191)], .agg [.lit (.int .u8 160), .lit (.int .u8 191)], .agg [.lit (.int .u8 128), .lit (.int .u8 159)], .agg [.lit (.int .u8 144), .lit (.int .u8 191)], .agg [.lit (.int .u8 128), .lit (.int .u8 143)], .agg [.lit (.int .u8 0), .lit (.int .u8 0)], .agg [.lit (.int .u8 0), .lit (.int .u8 0)], .agg [.lit (.int .u8 0), .lit (.int .u8 0)], .agg [.lit (.int .u8 0), .lit (.int .u8 0)], .agg [.lit (.int .u8 0), .lit (.int .u8 0)], .agg [.lit (.int .u8 0), .lit (.int .u8 0)], .agg [.lit (.int .u8 0), .lit (.int .u8 0)], .agg [.lit (.int .u8 0), .lit (.int .u8 0)], .agg [.lit (.int .u8 0), .lit (.int .u8 0)], .agg [.lit (.int .u8 0), .lit (.int .u8 0)], .agg [.lit (.int .u8 0), .lit (.int .u8 0)]]
/-- One of Go's own tables, pinned by name: the form's constant. -/
def laid_unicode_utf8_first : DataW Unit := Go.Pinned.utf8First

/-- 'tablefinderlaw33.RoutePaths': WHATEVER THE INPUT: true; the input reads as it did. -/
def routePathsSpec : ChangeSpec := { name := "routePaths", fn := fun _ => fun
  | [d1, d2, d3, d4, d5, d6] => { results := [.lit (.bool true)], args := [d1, d2, d3, d4, d5, d6] }
  | _ => none }
def routePathsRow : OpenClaim := { program := "ytiokcnmokoonkaagreatdoor", sum := "09c18739839b95f1d1fd4ba62b62ef5cc96d08d77e58c66b4d31e7cfdd4bd566", func := "tablefinder/tablefinderlaw33.RoutePaths", spec := "routePaths", unfollowed := true, recurses := true, named := ["unicode/utf8.first", "unicode/utf8.acceptRanges"], plainKeys := false, apart := false, laid := [("unicode/utf8.acceptRanges", laid_unicode_utf8_acceptRanges), ("unicode/utf8.first", laid_unicode_utf8_first)] }
def RoutePathsSaid : Prop := routePathsRow.holds Tryz.pinned (OpenSpec.ofChange routePathsSpec)

/-- ITS FALSE NEIGHBOUR: 'it returns false'. Refute it at one input. -/
def routePathsWrong : ChangeSpec := { name := "routePaths", fn := fun _ => fun
  | [d1, d2, d3, d4, d5, d6] => { results := [.lit (.bool false)], args := [d1, d2, d3, d4, d5, d6] }
  | _ => none }
def RoutePathsWrongFalsely : Prop := routePathsRow.holds Tryz.pinned (OpenSpec.ofChange routePathsWrong)

/-- 'tablefinderlaw33.RouteOrder': WHATEVER THE INPUT: true; the input reads as it did. -/
def routeOrderSpec : ChangeSpec := { name := "routeOrder", fn := fun _ => fun
  | [d1, d2, d3] => { results := [.lit (.bool true)], args := [d1, d2, d3] }
  | _ => none }
def routeOrderRow : OpenClaim := { program := "ytiokcnmokoonkaagreatdoor", sum := "09c18739839b95f1d1fd4ba62b62ef5cc96d08d77e58c66b4d31e7cfdd4bd566", func := "tablefinder/tablefinderlaw33.RouteOrder", spec := "routeOrder", unfollowed := true, recurses := true, named := ["unicode/utf8.first", "unicode/utf8.acceptRanges"], plainKeys := false, apart := false, laid := [("unicode/utf8.acceptRanges", laid_unicode_utf8_acceptRanges), ("unicode/utf8.first", laid_unicode_utf8_first)] }
def RouteOrderSaid : Prop := routeOrderRow.holds Tryz.pinned (OpenSpec.ofChange routeOrderSpec)

/-- ITS FALSE NEIGHBOUR: 'it returns false'. Refute it at one input. -/
def routeOrderWrong : ChangeSpec := { name := "routeOrder", fn := fun _ => fun
  | [d1, d2, d3] => { results := [.lit (.bool false)], args := [d1, d2, d3] }
  | _ => none }
def RouteOrderWrongFalsely : Prop := routeOrderRow.holds Tryz.pinned (OpenSpec.ofChange routeOrderWrong)

/-- 'tablefinderlaw33.RouteAll': WHATEVER THE INPUT: true; the input reads as it did. -/
def routeAllSpec : ChangeSpec := { name := "routeAll", fn := fun _ => fun
  | [d] => { results := [.lit (.bool true)], args := [d] }
  | _ => none }
def routeAllRow : OpenClaim := { program := "ytiokcnmokoonkaagreatdoor", sum := "09c18739839b95f1d1fd4ba62b62ef5cc96d08d77e58c66b4d31e7cfdd4bd566", func := "tablefinder/tablefinderlaw33.RouteAll", spec := "routeAll", unfollowed := true, recurses := true, named := ["unicode/utf8.first", "unicode/utf8.acceptRanges"], plainKeys := false, apart := false, laid := [("unicode/utf8.acceptRanges", laid_unicode_utf8_acceptRanges), ("unicode/utf8.first", laid_unicode_utf8_first)] }
def RouteAllSaid : Prop := routeAllRow.holds Tryz.pinned (OpenSpec.ofChange routeAllSpec)

/-- ITS FALSE NEIGHBOUR: 'it returns false'. Refute it at one input. -/
def routeAllWrong : ChangeSpec := { name := "routeAll", fn := fun _ => fun
  | [d] => { results := [.lit (.bool false)], args := [d] }
  | _ => none }
def RouteAllWrongFalsely : Prop := routeAllRow.holds Tryz.pinned (OpenSpec.ofChange routeAllWrong)

/-- 'tablefinderlaw33.RouteBest': WHATEVER THE INPUT: true; the input reads as it did. -/
def routeBestSpec : ChangeSpec := { name := "routeBest", fn := fun _ => fun
  | [d1, d2] => { results := [.lit (.bool true)], args := [d1, d2] }
  | _ => none }
def routeBestRow : OpenClaim := { program := "ytiokcnmokoonkaagreatdoor", sum := "09c18739839b95f1d1fd4ba62b62ef5cc96d08d77e58c66b4d31e7cfdd4bd566", func := "tablefinder/tablefinderlaw33.RouteBest", spec := "routeBest", unfollowed := true, recurses := true, named := ["unicode/utf8.first", "unicode/utf8.acceptRanges"], plainKeys := false, apart := false, laid := [("unicode/utf8.acceptRanges", laid_unicode_utf8_acceptRanges), ("unicode/utf8.first", laid_unicode_utf8_first)] }
def RouteBestSaid : Prop := routeBestRow.holds Tryz.pinned (OpenSpec.ofChange routeBestSpec)

/-- ITS FALSE NEIGHBOUR: 'it returns false'. Refute it at one input. -/
def routeBestWrong : ChangeSpec := { name := "routeBest", fn := fun _ => fun
  | [d1, d2] => { results := [.lit (.bool false)], args := [d1, d2] }
  | _ => none }
def RouteBestWrongFalsely : Prop := routeBestRow.holds Tryz.pinned (OpenSpec.ofChange routeBestWrong)

/-- 'tablefinderlaw33.RouteBack': WHATEVER THE INPUT: true; the input reads as it did. -/
def routeBackSpec : ChangeSpec := { name := "routeBack", fn := fun _ => fun
  | [d] => { results := [.lit (.bool true)], args := [d] }
  | _ => none }
def routeBackRow : OpenClaim := { program := "ytiokcnmokoonkaagreatdoor", sum := "09c18739839b95f1d1fd4ba62b62ef5cc96d08d77e58c66b4d31e7cfdd4bd566", func := "tablefinder/tablefinderlaw33.RouteBack", spec := "routeBack", unfollowed := true, recurses := true, named := ["unicode/utf8.first", "unicode/utf8.acceptRanges"], plainKeys := false, apart := false, laid := [("unicode/utf8.acceptRanges", laid_unicode_utf8_acceptRanges), ("unicode/utf8.first", laid_unicode_utf8_first)] }
def RouteBackSaid : Prop := routeBackRow.holds Tryz.pinned (OpenSpec.ofChange routeBackSpec)

/-- ITS FALSE NEIGHBOUR: 'it returns false'. Refute it at one input. -/
def routeBackWrong : ChangeSpec := { name := "routeBack", fn := fun _ => fun
  | [d] => { results := [.lit (.bool false)], args := [d] }
  | _ => none }
def RouteBackWrongFalsely : Prop := routeBackRow.holds Tryz.pinned (OpenSpec.ofChange routeBackWrong)

/- THE SECOND FORM. 'bulk': how many values and letters a reading holds, each counted each time it is reached (what is shared counts as often as it is met; a slice's spare places count too). A statement '..UptoSaid' is the law's where the arguments, and the package variables that the reading takes, are together of bulk at most 1048576: NARROWER than '..Said'. Prove '..Said' where nothing that the law and all that it calls make is longer than what came in: it says more and counts as full. Else prove '..UptoSaid'. A law counts once. -/
mutual
def uptoBulk {H : Type} : DataW H → Nat
  | .lit (.string bytes) => bytes.length + 1
  | .lit _ => 1
  | .nil => 1
  | .ptr d => uptoBulk d + 1
  | .slice elems spare => uptoBulkAll elems + uptoBulkAll spare + 1
  | .agg parts => uptoBulkAll parts + 1
  | .iface _ d => uptoBulk d + 1
  | .map entries => uptoBulkEntries entries + 1
  | .held _ => 1
def uptoBulkAll {H : Type} : List (DataW H) → Nat
  | [] => 0
  | d :: r => uptoBulk d + uptoBulkAll r
def uptoBulkEntries {H : Type} : List (Lit × DataW H) → Nat
  | [] => 0
  | x :: r => uptoBulkEntry x + uptoBulkEntries r
def uptoBulkEntry {H : Type} : Lit × DataW H → Nat
  | (.string bytes, d) => bytes.length + uptoBulk d + 1
  | (_, d) => uptoBulk d + 1
 end
def uptoSmall : (H : Type) → List (DataW H) → Bool := fun _ ds => decide (uptoBulkAll ds ≤ 1048576)
def OpenSpec.upto (s : _root_.Go.ChangeSpec) : _root_.Go.OpenSpec := { _root_.Go.OpenSpec.ofChange s with cond := some uptoSmall }

/-- 'tablefinderlaw33.RoutePaths', WHERE WHAT IT READS IS OF BULK AT MOST 1048576: true; the input reads as it did. -/
def routePathsUptoRow : OpenClaim := { program := "ytiokcnmokoonkaagreatdoor", sum := "09c18739839b95f1d1fd4ba62b62ef5cc96d08d77e58c66b4d31e7cfdd4bd566", func := "tablefinder/tablefinderlaw33.RoutePaths", spec := "routePaths", unfollowed := true, recurses := true, named := ["unicode/utf8.first", "unicode/utf8.acceptRanges"], plainKeys := false, apart := false, laid := [("unicode/utf8.acceptRanges", laid_unicode_utf8_acceptRanges), ("unicode/utf8.first", laid_unicode_utf8_first)], narrowed := true }
def RoutePathsUptoSaid : Prop := routePathsUptoRow.holds Tryz.pinned (OpenSpec.upto routePathsSpec)

/-- 'tablefinderlaw33.RouteOrder', WHERE WHAT IT READS IS OF BULK AT MOST 1048576: true; the input reads as it did. -/
def routeOrderUptoRow : OpenClaim := { program := "ytiokcnmokoonkaagreatdoor", sum := "09c18739839b95f1d1fd4ba62b62ef5cc96d08d77e58c66b4d31e7cfdd4bd566", func := "tablefinder/tablefinderlaw33.RouteOrder", spec := "routeOrder", unfollowed := true, recurses := true, named := ["unicode/utf8.first", "unicode/utf8.acceptRanges"], plainKeys := false, apart := false, laid := [("unicode/utf8.acceptRanges", laid_unicode_utf8_acceptRanges), ("unicode/utf8.first", laid_unicode_utf8_first)], narrowed := true }
def RouteOrderUptoSaid : Prop := routeOrderUptoRow.holds Tryz.pinned (OpenSpec.upto routeOrderSpec)

/-- 'tablefinderlaw33.RouteAll', WHERE WHAT IT READS IS OF BULK AT MOST 1048576: true; the input reads as it did. -/
def routeAllUptoRow : OpenClaim := { program := "ytiokcnmokoonkaagreatdoor", sum := "09c18739839b95f1d1fd4ba62b62ef5cc96d08d77e58c66b4d31e7cfdd4bd566", func := "tablefinder/tablefinderlaw33.RouteAll", spec := "routeAll", unfollowed := true, recurses := true, named := ["unicode/utf8.first", "unicode/utf8.acceptRanges"], plainKeys := false, apart := false, laid := [("unicode/utf8.acceptRanges", laid_unicode_utf8_acceptRanges), ("unicode/utf8.first", laid_unicode_utf8_first)], narrowed := true }
def RouteAllUptoSaid : Prop := routeAllUptoRow.holds Tryz.pinned (OpenSpec.upto routeAllSpec)

/-- 'tablefinderlaw33.RouteBest', WHERE WHAT IT READS IS OF BULK AT MOST 1048576: true; the input reads as it did. -/
def routeBestUptoRow : OpenClaim := { program := "ytiokcnmokoonkaagreatdoor", sum := "09c18739839b95f1d1fd4ba62b62ef5cc96d08d77e58c66b4d31e7cfdd4bd566", func := "tablefinder/tablefinderlaw33.RouteBest", spec := "routeBest", unfollowed := true, recurses := true, named := ["unicode/utf8.first", "unicode/utf8.acceptRanges"], plainKeys := false, apart := false, laid := [("unicode/utf8.acceptRanges", laid_unicode_utf8_acceptRanges), ("unicode/utf8.first", laid_unicode_utf8_first)], narrowed := true }
def RouteBestUptoSaid : Prop := routeBestUptoRow.holds Tryz.pinned (OpenSpec.upto routeBestSpec)

/-- 'tablefinderlaw33.RouteBack', WHERE WHAT IT READS IS OF BULK AT MOST 1048576: true; the input reads as it did. -/
def routeBackUptoRow : OpenClaim := { program := "ytiokcnmokoonkaagreatdoor", sum := "09c18739839b95f1d1fd4ba62b62ef5cc96d08d77e58c66b4d31e7cfdd4bd566", func := "tablefinder/tablefinderlaw33.RouteBack", spec := "routeBack", unfollowed := true, recurses := true, named := ["unicode/utf8.first", "unicode/utf8.acceptRanges"], plainKeys := false, apart := false, laid := [("unicode/utf8.acceptRanges", laid_unicode_utf8_acceptRanges), ("unicode/utf8.first", laid_unicode_utf8_first)], narrowed := true }
def RouteBackUptoSaid : Prop := routeBackUptoRow.holds Tryz.pinned (OpenSpec.upto routeBackSpec)

end Rows
end Go.Proofs.YtiokcnmokoonkaaGreatDoor
