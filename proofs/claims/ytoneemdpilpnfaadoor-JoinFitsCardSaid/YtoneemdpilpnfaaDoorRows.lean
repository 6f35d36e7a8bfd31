/-
  NARROWER THAN 'FOR EVERY INPUT', by the rows' own cells (each row's printed sentence says how): PathSteps: laid · PathTurns: laid · PathMany: laid · PathJoins: laid · JoinNulls: laid · JoinTurns: laid · JoinMany: laid · JoinFits: laid · JoinOne: laid · JoinTwo: laid.
  DERIVED. THE GIVEN ROWS OF THIS SEAT. 10 by the template 'for every input the law returns true; each argument reads behind the call as it read before'; 0 by the template 'total and deterministic' (their statements: YtoneemdpilpnfaaDoorTotals.lean).
  GIVEN WITH THE SEED: the statements are not yours to turn. If you find one false, say at which input.
  Laid BY PROGRAM, IN A SANDBOX (cutbox-rows.mjs): the forced cells as the released guide's own fill.sh prints them over the translation ca79340601347fac… (all of the seat's roots in one cut). By AI agents, Wed Nov 11 2026. No macro, syntax, notation, axiom, sorry.
-/
import Derived.Test.YtoneemdpilpnfaaDoorChecked
import GoSem.PinnedTables
import GoSem.Claim
import GoSem.ClaimJoined
import GoSem.ClaimMapViews
import Derived.JoinedTies
import Derived.KernelRfl
namespace Go.Proofs.YtoneemdpilpnfaaDoor
/- THE CELL 'sum', in the pinned program and in every row, IS THE sha256 OF THE DUMP (.gsa) THAT YtoneemdpilpnfaaDoorProg.lean LOADS. Nothing in Lean hashes anything: it is a label: what it is worth is what the hold of that sum in a sandbox is worth. -/
noncomputable def Tryd.pinned : Pinned := { name := "ytoneemdpilpnfaadoor", sum := "ca79340601347fac863191619159641ea2eedc4700f248479fd2bb5e424a3128", checked := Tryd.checked }
namespace Rows
def none {H : Type} : Left H := { results := [], args := [] }

/- WHAT THE LISTED PACKAGE-LEVEL VARIABLES READ AS WHEN THE CALL BEGINS. Each datum BY PROGRAM (the guide's laid-datum.mjs) off the statement by which the dump's own 'gosem.cut.vars' lays the variable. In a bare row this is a premise. The card (YtoneemdpilpnfaaDoorCards.lean) ties it to the program's text. -/
def laid_unicode_utf8_acceptRanges {H : Type} : DataW H := .agg [.agg [.lit (.int .u8 128), .lit (.int .u8 191)], .agg [.lit (.int .u8 160), .lit (.int .u8 191)], .agg [.lit (.int .u8 128), .lit (.int .u8 159)], .agg [.lit (.int .u8 144), .lit (.int .u8 191)], .agg [.lit (.int .u8 128), .lit (.int .u8 143)], .agg [.lit (.int .u8 0), .lit (.int .u8 0)], .agg [.lit (.int .u8 0), .lit (.int .u8 0)], .agg [.lit (.int .u8 0), .lit (.int .u8 0)], .agg [.lit (.int .u8 0), .lit (.int .u8 0)], .agg [.lit (.int .u8 0), .lit (.int .u8 0)], .agg [.lit (.int .u8 0), .lit (.int .u8 0)], .agg [.lit (.int .u8 0), .lit (.int .u8 0)], .agg [.lit (.int .u8 0), .lit (.int .u8 0)], .agg [.lit (.int .u8 0), .lit (.int .u8 0)], .agg [.lit (.int .u8 0), .lit (.int .u8 0)], .agg [.lit (.int .u8 0), .lit (.int .u8 0)]]
/-- One of Go's own tables, pinned by name: the form's constant. -/
def laid_unicode_utf8_first : DataW Unit := Go.Pinned.utf8First
def laid_math_bits_deBruijn32tab {H : Type} : DataW H := .agg [.lit (.int .u8 0), .lit (.int .u8 1), .lit (.int .u8 28), .lit (.int .u8 2), .lit (.int .u8 29), .lit (.int .u8 14), .lit (.int .u8 24), .lit (.int .u8 3), .lit (.int .u8 30), .lit (.int .u8 22), .lit (.int .u8 20), .lit (.int .u8 15), .lit (.int .u8 25), .lit (.int .u8 17), .lit (.int .u8 4), .lit (.int .u8 8), .lit (.int .u8 31), .lit (.int .u8 27), .lit (.int .u8 13), .lit (.int .u8 23), .lit (.int .u8 21), .lit (.int .u8 19), .lit (.int .u8 16), .lit (.int .u8 7), .lit (.int .u8 26), .lit (.int .u8 12), .lit (.int .u8 18), .lit (.int .u8 6), .lit (.int .u8 11), .lit (.int .u8 5), .lit (.int .u8 10), .lit (.int .u8 9)]
def laid_math_bits_deBruijn64tab {H : Type} : DataW H := .agg [.lit (.int .u8 0), .lit (.int .u8 1), .lit (.int .u8 56), .lit (.int .u8 2), .lit (.int .u8 57), .lit (.int .u8 49), .lit (.int .u8 28), .lit (.int .u8 3), .lit (.int .u8 61), .lit (.int .u8 58), .lit (.int .u8 42), .lit (.int .u8 50), .lit (.int .u8 38), .lit (.int .u8 29), .lit (.int .u8 17), .lit (.int .u8 4), .lit (.int .u8 62), .lit (.int .u8 47), .lit (.int .u8 59), .lit (.int .u8 36), .lit (.int .u8 45), .lit (.int .u8 43), .lit (.int .u8 51), .lit (.int .u8 22), .lit (.int .u8 53), .lit (.int .u8 39), .lit (.int .u8 33), .lit (.int .u8 30), .lit (.int .u8 24), .lit (.int .u8 18), .lit (.int .u8 12), .lit (.int .u8 5), .lit (.int .u8 63), .lit (.int .u8 55), .lit (.int .u8 48), .lit (.int .u8 27), .lit (.int .u8 60), .lit (.int .u8 41), .lit (.int .u8 37), .lit (.int .u8 16), .lit (.int .u8 46), .lit (.int .u8 35), .lit (.int .u8 44), .lit (.int .u8 21), .lit (.int .u8 52), .lit (.int .u8 32), .lit (.int .u8 23), .lit (.int .u8 11), .lit (.int .u8 54), .lit (.int .u8 26), .lit (.int .u8 40), .lit (.int .u8 15), .lit (.int .u8 34), .lit (.int .u8 20), .lit (.int .u8 31), .lit (.int .u8 10), .lit (.int .u8 25), .lit (.int .u8 14), .lit (.int .u8 19), .lit (.int .u8 9), .lit (.int .u8 13), .lit (.int .u8 8), .lit (.int .u8 7), .lit (.int .u8 6)]
def laid_internal_strconv_uint64pow10 {H : Type} : DataW H := .agg [.lit (.int .u64 1), .lit (.int .u64 10), .lit (.int .u64 100), .lit (.int .u64 1000), .lit (.int .u64 10000), .lit (.int .u64 100000), .lit (.int .u64 1000000), .lit (.int .u64 10000000), .lit (.int .u64 100000000), .lit (.int .u64 1000000000), .lit (.int .u64 10000000000), .lit (.int .u64 100000000000), .lit (.int .u64 1000000000000), .lit (.int .u64 10000000000000), .lit (.int .u64 100000000000000), .lit (.int .u64 1000000000000000), .lit (.int .u64 10000000000000000), .lit (.int .u64 100000000000000000), .lit (.int .u64 1000000000000000000), .lit (.int .u64 10000000000000000000)]

/-- 'tablefinderlaw32.PathSteps': WHATEVER THE INPUT: true; the input reads as it did. -/
def pathStepsSpec : ChangeSpec := { name := "pathSteps", fn := fun _ => fun
  | [d] => { results := [.lit (.bool true)], args := [d] }
  | _ => none }
def pathStepsRow : OpenClaim := { program := "ytoneemdpilpnfaadoor", sum := "ca79340601347fac863191619159641ea2eedc4700f248479fd2bb5e424a3128", func := "tablefinder/tablefinderlaw32.PathSteps", spec := "pathSteps", unfollowed := true, recurses := true, named := ["unicode/utf8.first", "unicode/utf8.acceptRanges"], plainKeys := false, apart := false, laid := [("unicode/utf8.acceptRanges", laid_unicode_utf8_acceptRanges), ("unicode/utf8.first", laid_unicode_utf8_first)] }
def PathStepsSaid : Prop := pathStepsRow.holds Tryd.pinned (OpenSpec.ofChange pathStepsSpec)

/-- ITS FALSE NEIGHBOUR: 'it returns false'. Refute it at one input. -/
def pathStepsWrong : ChangeSpec := { name := "pathSteps", fn := fun _ => fun
  | [d] => { results := [.lit (.bool false)], args := [d] }
  | _ => none }
def PathStepsWrongFalsely : Prop := pathStepsRow.holds Tryd.pinned (OpenSpec.ofChange pathStepsWrong)

/-- 'tablefinderlaw32.PathTurns': WHATEVER THE INPUT: true; the input reads as it did. -/
def pathTurnsSpec : ChangeSpec := { name := "pathTurns", fn := fun _ => fun
  | [d] => { results := [.lit (.bool true)], args := [d] }
  | _ => none }
def pathTurnsRow : OpenClaim := { program := "ytoneemdpilpnfaadoor", sum := "ca79340601347fac863191619159641ea2eedc4700f248479fd2bb5e424a3128", func := "tablefinder/tablefinderlaw32.PathTurns", spec := "pathTurns", unfollowed := true, recurses := true, named := ["unicode/utf8.first", "unicode/utf8.acceptRanges"], plainKeys := false, apart := false, laid := [("unicode/utf8.acceptRanges", laid_unicode_utf8_acceptRanges), ("unicode/utf8.first", laid_unicode_utf8_first)] }
def PathTurnsSaid : Prop := pathTurnsRow.holds Tryd.pinned (OpenSpec.ofChange pathTurnsSpec)

/-- ITS FALSE NEIGHBOUR: 'it returns false'. Refute it at one input. -/
def pathTurnsWrong : ChangeSpec := { name := "pathTurns", fn := fun _ => fun
  | [d] => { results := [.lit (.bool false)], args := [d] }
  | _ => none }
def PathTurnsWrongFalsely : Prop := pathTurnsRow.holds Tryd.pinned (OpenSpec.ofChange pathTurnsWrong)

/-- 'tablefinderlaw32.PathMany': WHATEVER THE INPUT: true; the input reads as it did. -/
def pathManySpec : ChangeSpec := { name := "pathMany", fn := fun _ => fun
  | [d] => { results := [.lit (.bool true)], args := [d] }
  | _ => none }
def pathManyRow : OpenClaim := { program := "ytoneemdpilpnfaadoor", sum := "ca79340601347fac863191619159641ea2eedc4700f248479fd2bb5e424a3128", func := "tablefinder/tablefinderlaw32.PathMany", spec := "pathMany", unfollowed := true, recurses := true, named := ["unicode/utf8.first", "unicode/utf8.acceptRanges"], plainKeys := false, apart := false, laid := [("unicode/utf8.acceptRanges", laid_unicode_utf8_acceptRanges), ("unicode/utf8.first", laid_unicode_utf8_first)] }
def PathManySaid : Prop := pathManyRow.holds Tryd.pinned (OpenSpec.ofChange pathManySpec)

/-- ITS FALSE NEIGHBOUR: 'it returns false'. Refute it at one input. -/
def pathManyWrong : ChangeSpec := { name := "pathMany", fn := fun _ => fun
  | [d] => { results := [.lit (.bool false)], args := [d] }
  | _ => none }
def PathManyWrongFalsely : Prop := pathManyRow.holds Tryd.pinned (OpenSpec.ofChange pathManyWrong)

/-- 'tablefinderlaw32.PathJoins': WHATEVER THE INPUT: true; the input reads as it did. -/
def pathJoinsSpec : ChangeSpec := { name := "pathJoins", fn := fun _ => fun
  | [d] => { results := [.lit (.bool true)], args := [d] }
  | _ => none }
def pathJoinsRow : OpenClaim := { program := "ytoneemdpilpnfaadoor", sum := "ca79340601347fac863191619159641ea2eedc4700f248479fd2bb5e424a3128", func := "tablefinder/tablefinderlaw32.PathJoins", spec := "pathJoins", unfollowed := true, recurses := true, named := ["unicode/utf8.first", "unicode/utf8.acceptRanges"], plainKeys := false, apart := false, laid := [("unicode/utf8.acceptRanges", laid_unicode_utf8_acceptRanges), ("unicode/utf8.first", laid_unicode_utf8_first)] }
def PathJoinsSaid : Prop := pathJoinsRow.holds Tryd.pinned (OpenSpec.ofChange pathJoinsSpec)

/-- ITS FALSE NEIGHBOUR: 'it returns false'. Refute it at one input. -/
def pathJoinsWrong : ChangeSpec := { name := "pathJoins", fn := fun _ => fun
  | [d] => { results := [.lit (.bool false)], args := [d] }
  | _ => none }
def PathJoinsWrongFalsely : Prop := pathJoinsRow.holds Tryd.pinned (OpenSpec.ofChange pathJoinsWrong)

/-- 'tablefinderlaw31.JoinNulls': WHATEVER THE INPUT: true; the input reads as it did. -/
def joinNullsSpec : ChangeSpec := { name := "joinNulls", fn := fun _ => fun
  | [d] => { results := [.lit (.bool true)], args := [d] }
  | _ => none }
def joinNullsRow : OpenClaim := { program := "ytoneemdpilpnfaadoor", sum := "ca79340601347fac863191619159641ea2eedc4700f248479fd2bb5e424a3128", func := "tablefinder/tablefinderlaw31.JoinNulls", spec := "joinNulls", unfollowed := true, recurses := true, named := ["unicode/utf8.first", "unicode/utf8.acceptRanges"], plainKeys := false, apart := false, laid := [("unicode/utf8.acceptRanges", laid_unicode_utf8_acceptRanges), ("unicode/utf8.first", laid_unicode_utf8_first)] }
def JoinNullsSaid : Prop := joinNullsRow.holds Tryd.pinned (OpenSpec.ofChange joinNullsSpec)

/-- ITS FALSE NEIGHBOUR: 'it returns false'. Refute it at one input. -/
def joinNullsWrong : ChangeSpec := { name := "joinNulls", fn := fun _ => fun
  | [d] => { results := [.lit (.bool false)], args := [d] }
  | _ => none }
def JoinNullsWrongFalsely : Prop := joinNullsRow.holds Tryd.pinned (OpenSpec.ofChange joinNullsWrong)

/-- 'tablefinderlaw31.JoinTurns': WHATEVER THE INPUT: true; the input reads as it did. -/
def joinTurnsSpec : ChangeSpec := { name := "joinTurns", fn := fun _ => fun
  | [d] => { results := [.lit (.bool true)], args := [d] }
  | _ => none }
def joinTurnsRow : OpenClaim := { program := "ytoneemdpilpnfaadoor", sum := "ca79340601347fac863191619159641ea2eedc4700f248479fd2bb5e424a3128", func := "tablefinder/tablefinderlaw31.JoinTurns", spec := "joinTurns", unfollowed := true, recurses := true, named := ["unicode/utf8.first", "unicode/utf8.acceptRanges"], plainKeys := false, apart := false, laid := [("unicode/utf8.acceptRanges", laid_unicode_utf8_acceptRanges), ("unicode/utf8.first", laid_unicode_utf8_first)] }
def JoinTurnsSaid : Prop := joinTurnsRow.holds Tryd.pinned (OpenSpec.ofChange joinTurnsSpec)

/-- ITS FALSE NEIGHBOUR: 'it returns false'. Refute it at one input. -/
def joinTurnsWrong : ChangeSpec := { name := "joinTurns", fn := fun _ => fun
  | [d] => { results := [.lit (.bool false)], args := [d] }
  | _ => none }
def JoinTurnsWrongFalsely : Prop := joinTurnsRow.holds Tryd.pinned (OpenSpec.ofChange joinTurnsWrong)

/-- 'tablefinderlaw31.JoinMany': WHATEVER THE INPUT: true; the input reads as it did. -/
def joinManySpec : ChangeSpec := { name := "joinMany", fn := fun _ => fun
  | [d] => { results := [.lit (.bool true)], args := [d] }
  | _ => none }
def joinManyRow : OpenClaim := { program := "ytoneemdpilpnfaadoor", sum := "ca79340601347fac863191619159641ea2eedc4700f248479fd2bb5e424a3128", func := "tablefinder/tablefinderlaw31.JoinMany", spec := "joinMany", unfollowed := true, recurses := true, named := ["unicode/utf8.first", "unicode/utf8.acceptRanges"], plainKeys := false, apart := false, laid := [("unicode/utf8.acceptRanges", laid_unicode_utf8_acceptRanges), ("unicode/utf8.first", laid_unicode_utf8_first)] }
def JoinManySaid : Prop := joinManyRow.holds Tryd.pinned (OpenSpec.ofChange joinManySpec)

/-- ITS FALSE NEIGHBOUR: 'it returns false'. Refute it at one input. -/
def joinManyWrong : ChangeSpec := { name := "joinMany", fn := fun _ => fun
  | [d] => { results := [.lit (.bool false)], args := [d] }
  | _ => none }
def JoinManyWrongFalsely : Prop := joinManyRow.holds Tryd.pinned (OpenSpec.ofChange joinManyWrong)

/-- 'tablefinderlaw31.JoinFits': WHATEVER THE INPUT: true; the input reads as it did. -/
def joinFitsSpec : ChangeSpec := { name := "joinFits", fn := fun _ => fun
  | [d] => { results := [.lit (.bool true)], args := [d] }
  | _ => none }
def joinFitsRow : OpenClaim := { program := "ytoneemdpilpnfaadoor", sum := "ca79340601347fac863191619159641ea2eedc4700f248479fd2bb5e424a3128", func := "tablefinder/tablefinderlaw31.JoinFits", spec := "joinFits", unfollowed := true, recurses := true, named := ["unicode/utf8.first", "unicode/utf8.acceptRanges"], plainKeys := false, apart := false, laid := [("unicode/utf8.acceptRanges", laid_unicode_utf8_acceptRanges), ("unicode/utf8.first", laid_unicode_utf8_first)] }
def JoinFitsSaid : Prop := joinFitsRow.holds Tryd.pinned (OpenSpec.ofChange joinFitsSpec)

/-- ITS FALSE NEIGHBOUR: 'it returns false'. Refute it at one input. -/
def joinFitsWrong : ChangeSpec := { name := "joinFits", fn := fun _ => fun
  | [d] => { results := [.lit (.bool false)], args := [d] }
  | _ => none }
def JoinFitsWrongFalsely : Prop := joinFitsRow.holds Tryd.pinned (OpenSpec.ofChange joinFitsWrong)

/-- 'tablefinderlaw31.JoinOne': WHATEVER THE INPUT: true; the input reads as it did. -/
def joinOneSpec : ChangeSpec := { name := "joinOne", fn := fun _ => fun
  | [d1, d2, d3] => { results := [.lit (.bool true)], args := [d1, d2, d3] }
  | _ => none }
def joinOneRow : OpenClaim := { program := "ytoneemdpilpnfaadoor", sum := "ca79340601347fac863191619159641ea2eedc4700f248479fd2bb5e424a3128", func := "tablefinder/tablefinderlaw31.JoinOne", spec := "joinOne", unfollowed := true, recurses := true, named := ["unicode/utf8.first", "unicode/utf8.acceptRanges"], plainKeys := false, apart := false, laid := [("unicode/utf8.acceptRanges", laid_unicode_utf8_acceptRanges), ("unicode/utf8.first", laid_unicode_utf8_first)] }
def JoinOneSaid : Prop := joinOneRow.holds Tryd.pinned (OpenSpec.ofChange joinOneSpec)

/-- ITS FALSE NEIGHBOUR: 'it returns false'. Refute it at one input. -/
def joinOneWrong : ChangeSpec := { name := "joinOne", fn := fun _ => fun
  | [d1, d2, d3] => { results := [.lit (.bool false)], args := [d1, d2, d3] }
  | _ => none }
def JoinOneWrongFalsely : Prop := joinOneRow.holds Tryd.pinned (OpenSpec.ofChange joinOneWrong)

/-- 'tablefinderlaw31.JoinTwo': WHATEVER THE INPUT: true; the input reads as it did. -/
def joinTwoSpec : ChangeSpec := { name := "joinTwo", fn := fun _ => fun
  | [d1, d2, d3, d4] => { results := [.lit (.bool true)], args := [d1, d2, d3, d4] }
  | _ => none }
def joinTwoRow : OpenClaim := { program := "ytoneemdpilpnfaadoor", sum := "ca79340601347fac863191619159641ea2eedc4700f248479fd2bb5e424a3128", func := "tablefinder/tablefinderlaw31.JoinTwo", spec := "joinTwo", unfollowed := true, recurses := true, named := ["unicode/utf8.first", "unicode/utf8.acceptRanges", "internal/strconv.uint64pow10", "math/bits.deBruijn32tab", "math/bits.deBruijn64tab"], plainKeys := false, apart := false, laid := [("math/bits.deBruijn32tab", laid_math_bits_deBruijn32tab), ("math/bits.deBruijn64tab", laid_math_bits_deBruijn64tab), ("internal/strconv.uint64pow10", laid_internal_strconv_uint64pow10), ("unicode/utf8.acceptRanges", laid_unicode_utf8_acceptRanges), ("unicode/utf8.first", laid_unicode_utf8_first)] }
def JoinTwoSaid : Prop := joinTwoRow.holds Tryd.pinned (OpenSpec.ofChange joinTwoSpec)

/-- ITS FALSE NEIGHBOUR: 'it returns false'. Refute it at one input. -/
def joinTwoWrong : ChangeSpec := { name := "joinTwo", fn := fun _ => fun
  | [d1, d2, d3, d4] => { results := [.lit (.bool false)], args := [d1, d2, d3, d4] }
  | _ => none }
def JoinTwoWrongFalsely : Prop := joinTwoRow.holds Tryd.pinned (OpenSpec.ofChange joinTwoWrong)

/- THE SECOND FORM. 'bulk': how many values and letters a reading holds, each counted each time it is reached (what is shared counts as often as it is met; a slice's spare places count too). A statement '..UptoSaid' is the law's where the arguments, and the package variables that the reading takes, are together of bulk at most 1048576: NARROWER than '..Said'. Prove '..Said' where nothing that the law and all that it calls make is longer than what came in: it says more and counts as full. Else prove '..UptoSaid'. A law counts once. -/
mutual
def uptoBulk {H : Type} : DataW H → Nat
  | .lit (.string bytes) => bytes.length + 1
  | .lit _ => 1
  | .nil => 1
  | .ptr d => uptoBulk d + 1
  | .slice elems spare => uptoBulkAll elems + uptoBulkAll spare + 1
  | .agg parts => uptoBulkAll parts + 1
  | .iface _ d => uptoBulk d + 1
  | .map entries => uptoBulkEntries entries + 1
  | .held _ => 1
def uptoBulkAll {H : Type} : List (DataW H) → Nat
  | [] => 0
  | d :: r => uptoBulk d + uptoBulkAll r
def uptoBulkEntries {H : Type} : List (Lit × DataW H) → Nat
  | [] => 0
  | x :: r => uptoBulkEntry x + uptoBulkEntries r
def uptoBulkEntry {H : Type} : Lit × DataW H → Nat
  | (.string bytes, d) => bytes.length + uptoBulk d + 1
  | (_, d) => uptoBulk d + 1
 end
def uptoSmall : (H : Type) → List (DataW H) → Bool := fun _ ds => decide (uptoBulkAll ds ≤ 1048576)
def OpenSpec.upto (s : _root_.Go.ChangeSpec) : _root_.Go.OpenSpec := { _root_.Go.OpenSpec.ofChange s with cond := some uptoSmall }

/-- 'tablefinderlaw32.PathSteps', WHERE WHAT IT READS IS OF BULK AT MOST 1048576: true; the input reads as it did. -/
def pathStepsUptoRow : OpenClaim := { program := "ytoneemdpilpnfaadoor", sum := "ca79340601347fac863191619159641ea2eedc4700f248479fd2bb5e424a3128", func := "tablefinder/tablefinderlaw32.PathSteps", spec := "pathSteps", unfollowed := true, recurses := true, named := ["unicode/utf8.first", "unicode/utf8.acceptRanges"], plainKeys := false, apart := false, laid := [("unicode/utf8.acceptRanges", laid_unicode_utf8_acceptRanges), ("unicode/utf8.first", laid_unicode_utf8_first)], narrowed := true }
def PathStepsUptoSaid : Prop := pathStepsUptoRow.holds Tryd.pinned (OpenSpec.upto pathStepsSpec)

/-- 'tablefinderlaw32.PathTurns', WHERE WHAT IT READS IS OF BULK AT MOST 1048576: true; the input reads as it did. -/
def pathTurnsUptoRow : OpenClaim := { program := "ytoneemdpilpnfaadoor", sum := "ca79340601347fac863191619159641ea2eedc4700f248479fd2bb5e424a3128", func := "tablefinder/tablefinderlaw32.PathTurns", spec := "pathTurns", unfollowed := true, recurses := true, named := ["unicode/utf8.first", "unicode/utf8.acceptRanges"], plainKeys := false, apart := false, laid := [("unicode/utf8.acceptRanges", laid_unicode_utf8_acceptRanges), ("unicode/utf8.first", laid_unicode_utf8_first)], narrowed := true }
def PathTurnsUptoSaid : Prop := pathTurnsUptoRow.holds Tryd.pinned (OpenSpec.upto pathTurnsSpec)

/-- 'tablefinderlaw32.PathMany', WHERE WHAT IT READS IS OF BULK AT MOST 1048576: true; the input reads as it did. -/
def pathManyUptoRow : OpenClaim := { program := "ytoneemdpilpnfaadoor", sum := "ca79340601347fac863191619159641ea2eedc4700f248479fd2bb5e424a3128", func := "tablefinder/tablefinderlaw32.PathMany", spec := "pathMany", unfollowed := true, recurses := true, named := ["unicode/utf8.first", "unicode/utf8.acceptRanges"], plainKeys := false, apart := false, laid := [("unicode/utf8.acceptRanges", laid_unicode_utf8_acceptRanges), ("unicode/utf8.first", laid_unicode_utf8_first)], narrowed := true }
def PathManyUptoSaid : Prop := pathManyUptoRow.holds Tryd.pinned (OpenSpec.upto pathManySpec)

/-- 'tablefinderlaw32.PathJoins', WHERE WHAT IT READS IS OF BULK AT MOST 1048576: true; the input reads as it did. -/
def pathJoinsUptoRow : OpenClaim := { program := "ytoneemdpilpnfaadoor", sum := "ca79340601347fac863191619159641ea2eedc4700f248479fd2bb5e424a3128", func := "tablefinder/tablefinderlaw32.PathJoins", spec := "pathJoins", unfollowed := true, recurses := true, named := ["unicode/utf8.first", "unicode/utf8.acceptRanges"], plainKeys := false, apart := false, laid := [("unicode/utf8.acceptRanges", laid_unicode_utf8_acceptRanges), ("unicode/utf8.first", laid_unicode_utf8_first)], narrowed := true }
def PathJoinsUptoSaid : Prop := pathJoinsUptoRow.holds Tryd.pinned (OpenSpec.upto pathJoinsSpec)

/-- 'tablefinderlaw31.JoinNulls', WHERE WHAT IT READS IS OF BULK AT MOST 1048576: true; the input reads as it did. -/
def joinNullsUptoRow : OpenClaim := { program := "ytoneemdpilpnfaadoor", sum := "ca79340601347fac863191619159641ea2eedc4700f248479fd2bb5e424a3128", func := "tablefinder/tablefinderlaw31.JoinNulls", spec := "joinNulls", unfollowed := true, recurses := true, named := ["unicode/utf8.first", "unicode/utf8.acceptRanges"], plainKeys := false, apart := false, laid := [("unicode/utf8.acceptRanges", laid_unicode_utf8_acceptRanges), ("unicode/utf8.first", laid_unicode_utf8_first)], narrowed := true }
def JoinNullsUptoSaid : Prop := joinNullsUptoRow.holds Tryd.pinned (OpenSpec.upto joinNullsSpec)

/-- 'tablefinderlaw31.JoinTurns', WHERE WHAT IT READS IS OF BULK AT MOST 1048576: true; the input reads as it did. -/
def joinTurnsUptoRow : OpenClaim := { program := "ytoneemdpilpnfaadoor", sum := "ca79340601347fac863191619159641ea2eedc4700f248479fd2bb5e424a3128", func := "tablefinder/tablefinderlaw31.JoinTurns", spec := "joinTurns", unfollowed := true, recurses := true, named := ["unicode/utf8.first", "unicode/utf8.acceptRanges"], plainKeys := false, apart := false, laid := [("unicode/utf8.acceptRanges", laid_unicode_utf8_acceptRanges), ("unicode/utf8.first", laid_unicode_utf8_first)], narrowed := true }
def JoinTurnsUptoSaid : Prop := joinTurnsUptoRow.holds Tryd.pinned (OpenSpec.upto joinTurnsSpec)

/-- 'tablefinderlaw31.JoinMany', WHERE WHAT IT READS IS OF BULK AT MOST 1048576: true; the input reads as it did. -/
def joinManyUptoRow : OpenClaim := { program := "ytoneemdpilpnfaadoor", sum := "ca79340601347fac863191619159641ea2eedc4700f248479fd2bb5e424a3128", func := "tablefinder/tablefinderlaw31.JoinMany", spec := "joinMany", unfollowed := true, recurses := true, named := ["unicode/utf8.first", "unicode/utf8.acceptRanges"], plainKeys := false, apart := false, laid := [("unicode/utf8.acceptRanges", laid_unicode_utf8_acceptRanges), ("unicode/utf8.first", laid_unicode_utf8_first)], narrowed := true }
def JoinManyUptoSaid : Prop := joinManyUptoRow.holds Tryd.pinned (OpenSpec.upto joinManySpec)

/-- 'tablefinderlaw31.JoinFits', WHERE WHAT IT READS IS OF BULK AT MOST 1048576: true; the input reads as it did. -/
def joinFitsUptoRow : OpenClaim := { program := "ytoneemdpilpnfaadoor", sum := "ca79340601347fac863191619159641ea2eedc4700f248479fd2bb5e424a3128", func := "tablefinder/tablefinderlaw31.JoinFits", spec := "joinFits", unfollowed := true, recurses := true, named := ["unicode/utf8.first", "unicode/utf8.acceptRanges"], plainKeys := false, apart := false, laid := [("unicode/utf8.acceptRanges", laid_unicode_utf8_acceptRanges), ("unicode/utf8.first", laid_unicode_utf8_first)], narrowed := true }
def JoinFitsUptoSaid : Prop := joinFitsUptoRow.holds Tryd.pinned (OpenSpec.upto joinFitsSpec)

/-- 'tablefinderlaw31.JoinOne', WHERE WHAT IT READS IS OF BULK AT MOST 1048576: true; the input reads as it did. -/
def joinOneUptoRow : OpenClaim := { program := "ytoneemdpilpnfaadoor", sum := "ca79340601347fac863191619159641ea2eedc4700f248479fd2bb5e424a3128", func := "tablefinder/tablefinderlaw31.JoinOne", spec := "joinOne", unfollowed := true, recurses := true, named := ["unicode/utf8.first", "unicode/utf8.acceptRanges"], plainKeys := false, apart := false, laid := [("unicode/utf8.acceptRanges", laid_unicode_utf8_acceptRanges), ("unicode/utf8.first", laid_unicode_utf8_first)], narrowed := true }
def JoinOneUptoSaid : Prop := joinOneUptoRow.holds Tryd.pinned (OpenSpec.upto joinOneSpec)

/-- 'tablefinderlaw31.JoinTwo', WHERE WHAT IT READS IS OF BULK AT MOST 1048576: true; the input reads as it did. -/
def joinTwoUptoRow : OpenClaim := { program := "ytoneemdpilpnfaadoor", sum := "ca79340601347fac863191619159641ea2eedc4700f248479fd2bb5e424a3128", func := "tablefinder/tablefinderlaw31.JoinTwo", spec := "joinTwo", unfollowed := true, recurses := true, named := ["unicode/utf8.first", "unicode/utf8.acceptRanges", "internal/strconv.uint64pow10", "math/bits.deBruijn32tab", "math/bits.deBruijn64tab"], plainKeys := false, apart := false, laid := [("math/bits.deBruijn32tab", laid_math_bits_deBruijn32tab), ("math/bits.deBruijn64tab", laid_math_bits_deBruijn64tab), ("internal/strconv.uint64pow10", laid_internal_strconv_uint64pow10), ("unicode/utf8.acceptRanges", laid_unicode_utf8_acceptRanges), ("unicode/utf8.first", laid_unicode_utf8_first)], narrowed := true }
def JoinTwoUptoSaid : Prop := joinTwoUptoRow.holds Tryd.pinned (OpenSpec.upto joinTwoSpec)

end Rows
end Go.Proofs.YtoneemdpilpnfaaDoor
