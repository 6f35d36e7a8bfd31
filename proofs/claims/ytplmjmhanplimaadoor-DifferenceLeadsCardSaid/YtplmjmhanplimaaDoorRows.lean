/-
  NARROWER THAN 'FOR EVERY INPUT', by the rows' own cells (each row's printed sentence says how): DifferenceChain: laid · DifferenceOther: laid · DifferenceApplies: laid · DifferenceLeads: laid · SnapshotOnce: laid · SnapshotForgets: laid · SnapshotActs: laid · SnapshotStays: laid.
  DERIVED. THE GIVEN ROWS OF THIS SEAT. 8 by the template 'for every input the law returns true; each argument reads behind the call as it read before'; 0 by the template 'total and deterministic' (their statements: YtplmjmhanplimaaDoorTotals.lean).
  GIVEN WITH THE SEED: the statements are not yours to turn. If you find one false, say at which input.
  Laid BY PROGRAM, IN A SANDBOX (cutbox-rows.mjs): the forced cells as the released guide's own fill.sh prints them over the translation 624704ac47d437fc… (all of the seat's roots in one cut). By AI agents, Wed Nov 11 2026. No macro, syntax, notation, axiom, sorry.
-/
import Derived.Test.YtplmjmhanplimaaDoorChecked
import GoSem.PinnedTables
import GoSem.Claim
import GoSem.ClaimJoined
import GoSem.ClaimMapViews
import Derived.JoinedTies
import Derived.KernelRfl
namespace Go.Proofs.YtplmjmhanplimaaDoor
/- THE CELL 'sum', in the pinned program and in every row, IS THE sha256 OF THE DUMP (.gsa) THAT YtplmjmhanplimaaDoorProg.lean LOADS. Nothing in Lean hashes anything: it is a label: what it is worth is what the hold of that sum in a sandbox is worth. -/
noncomputable def Tryd.pinned : Pinned := { name := "ytplmjmhanplimaadoor", sum := "624704ac47d437fc199b5e70289a0e90668d786f545c89cfaa1d29da5cd77147", checked := Tryd.checked }
namespace Rows
def none {H : Type} : Left H := { results := [], args := [] }

/- WHAT THE LISTED PACKAGE-LEVEL VARIABLES READ AS WHEN THE CALL BEGINS. Each datum BY PROGRAM (the guide's laid-datum.mjs) off the statement by which the dump's own 'gosem.cut.vars' lays the variable. In a bare row this is a premise. The card (YtplmjmhanplimaaDoorCards.lean) ties it to the program's text. -/
def laid_unicode_utf8_acceptRanges {H : Type} : DataW H := .agg [.agg [.lit (.int .u8 128), .lit (.int .u8 191)], .agg [.lit (.int .u8 160), .lit (.int .u8 191)], .agg [.lit (.int .u8 128), .lit (.int .u8 159)], .agg [.lit (.int .u8 144), .lit (.int .u8 191)], .agg [.lit (.int .u8 128), .lit (.int .u8 143)], .agg [.lit (.int .u8 0), .lit (.int .u8 0)], .agg [.lit (.int .u8 0), .lit (.int .u8 0)], .agg [.lit (.int .u8 0), .lit (.int .u8 0)], .agg [.lit (.int .u8 0), .lit (.int .u8 0)], .agg [.lit (.int .u8 0), .lit (.int .u8 0)], .agg [.lit (.int .u8 0), .lit (.int .u8 0)], .agg [.lit (.int .u8 0), .lit (.int .u8 0)], .agg [.lit (.int .u8 0), .lit (.int .u8 0)], .agg [.lit (.int .u8 0), .lit (.int .u8 0)], .agg [.lit (.int .u8 0), .lit (.int .u8 0)], .agg [.lit (.int .u8 0), .lit (.int .u8 0)]]
/-- One of Go's own tables, pinned by name: the form's constant. -/
def laid_unicode_utf8_first : DataW Unit := Go.Pinned.utf8First
def laid_math_bits_deBruijn32tab {H : Type} : DataW H := .agg [.lit (.int .u8 0), .lit (.int .u8 1), .lit (.int .u8 28), .lit (.int .u8 2), .lit (.int .u8 29), .lit (.int .u8 14), .lit (.int .u8 24), .lit (.int .u8 3), .lit (.int .u8 30), .lit (.int .u8 22), .lit (.int .u8 20), .lit (.int .u8 15), .lit (.int .u8 25), .lit (.int .u8 17), .lit (.int .u8 4), .lit (.int .u8 8), .lit (.int .u8 31), .lit (.int .u8 27), .lit (.int .u8 13), .lit (.int .u8 23), .lit (.int .u8 21), .lit (.int .u8 19), .lit (.int .u8 16), .lit (.int .u8 7), .lit (.int .u8 26), .lit (.int .u8 12), .lit (.int .u8 18), .lit (.int .u8 6), .lit (.int .u8 11), .lit (.int .u8 5), .lit (.int .u8 10), .lit (.int .u8 9)]
def laid_math_bits_deBruijn64tab {H : Type} : DataW H := .agg [.lit (.int .u8 0), .lit (.int .u8 1), .lit (.int .u8 56), .lit (.int .u8 2), .lit (.int .u8 57), .lit (.int .u8 49), .lit (.int .u8 28), .lit (.int .u8 3), .lit (.int .u8 61), .lit (.int .u8 58), .lit (.int .u8 42), .lit (.int .u8 50), .lit (.int .u8 38), .lit (.int .u8 29), .lit (.int .u8 17), .lit (.int .u8 4), .lit (.int .u8 62), .lit (.int .u8 47), .lit (.int .u8 59), .lit (.int .u8 36), .lit (.int .u8 45), .lit (.int .u8 43), .lit (.int .u8 51), .lit (.int .u8 22), .lit (.int .u8 53), .lit (.int .u8 39), .lit (.int .u8 33), .lit (.int .u8 30), .lit (.int .u8 24), .lit (.int .u8 18), .lit (.int .u8 12), .lit (.int .u8 5), .lit (.int .u8 63), .lit (.int .u8 55), .lit (.int .u8 48), .lit (.int .u8 27), .lit (.int .u8 60), .lit (.int .u8 41), .lit (.int .u8 37), .lit (.int .u8 16), .lit (.int .u8 46), .lit (.int .u8 35), .lit (.int .u8 44), .lit (.int .u8 21), .lit (.int .u8 52), .lit (.int .u8 32), .lit (.int .u8 23), .lit (.int .u8 11), .lit (.int .u8 54), .lit (.int .u8 26), .lit (.int .u8 40), .lit (.int .u8 15), .lit (.int .u8 34), .lit (.int .u8 20), .lit (.int .u8 31), .lit (.int .u8 10), .lit (.int .u8 25), .lit (.int .u8 14), .lit (.int .u8 19), .lit (.int .u8 9), .lit (.int .u8 13), .lit (.int .u8 8), .lit (.int .u8 7), .lit (.int .u8 6)]
def laid_internal_strconv_uint64pow10 {H : Type} : DataW H := .agg [.lit (.int .u64 1), .lit (.int .u64 10), .lit (.int .u64 100), .lit (.int .u64 1000), .lit (.int .u64 10000), .lit (.int .u64 100000), .lit (.int .u64 1000000), .lit (.int .u64 10000000), .lit (.int .u64 100000000), .lit (.int .u64 1000000000), .lit (.int .u64 10000000000), .lit (.int .u64 100000000000), .lit (.int .u64 1000000000000), .lit (.int .u64 10000000000000), .lit (.int .u64 100000000000000), .lit (.int .u64 1000000000000000), .lit (.int .u64 10000000000000000), .lit (.int .u64 100000000000000000), .lit (.int .u64 1000000000000000000), .lit (.int .u64 10000000000000000000)]

/-- 'tablefinderlaw37.DifferenceChain': WHATEVER THE INPUT: true; the input reads as it did. -/
def differenceChainSpec : ChangeSpec := { name := "differenceChain", fn := fun _ => fun
  | [d] => { results := [.lit (.bool true)], args := [d] }
  | _ => none }
def differenceChainRow : OpenClaim := { program := "ytplmjmhanplimaadoor", sum := "624704ac47d437fc199b5e70289a0e90668d786f545c89cfaa1d29da5cd77147", func := "tablefinder/tablefinderlaw37.DifferenceChain", spec := "differenceChain", inPlace := ["internal/bytealg.abigen_runtime_cmpstring"], unfollowed := true, recurses := true, named := ["unicode/utf8.first", "unicode/utf8.acceptRanges"], apart := false, laid := [("unicode/utf8.acceptRanges", laid_unicode_utf8_acceptRanges), ("unicode/utf8.first", laid_unicode_utf8_first)] }
def DifferenceChainSaid : Prop := differenceChainRow.holds Tryd.pinned (OpenSpec.ofChange differenceChainSpec)

/-- ITS FALSE NEIGHBOUR: 'it returns false'. Refute it at one input. -/
def differenceChainWrong : ChangeSpec := { name := "differenceChain", fn := fun _ => fun
  | [d] => { results := [.lit (.bool false)], args := [d] }
  | _ => none }
def DifferenceChainWrongFalsely : Prop := differenceChainRow.holds Tryd.pinned (OpenSpec.ofChange differenceChainWrong)

/-- 'tablefinderlaw37.DifferenceOther': WHATEVER THE INPUT: true; the input reads as it did. -/
def differenceOtherSpec : ChangeSpec := { name := "differenceOther", fn := fun _ => fun
  | [d] => { results := [.lit (.bool true)], args := [d] }
  | _ => none }
def differenceOtherRow : OpenClaim := { program := "ytplmjmhanplimaadoor", sum := "624704ac47d437fc199b5e70289a0e90668d786f545c89cfaa1d29da5cd77147", func := "tablefinder/tablefinderlaw37.DifferenceOther", spec := "differenceOther", inPlace := ["internal/bytealg.abigen_runtime_cmpstring"], unfollowed := true, recurses := true, named := ["unicode/utf8.first", "unicode/utf8.acceptRanges"], apart := false, laid := [("unicode/utf8.acceptRanges", laid_unicode_utf8_acceptRanges), ("unicode/utf8.first", laid_unicode_utf8_first)] }
def DifferenceOtherSaid : Prop := differenceOtherRow.holds Tryd.pinned (OpenSpec.ofChange differenceOtherSpec)

/-- ITS FALSE NEIGHBOUR: 'it returns false'. Refute it at one input. -/
def differenceOtherWrong : ChangeSpec := { name := "differenceOther", fn := fun _ => fun
  | [d] => { results := [.lit (.bool false)], args := [d] }
  | _ => none }
def DifferenceOtherWrongFalsely : Prop := differenceOtherRow.holds Tryd.pinned (OpenSpec.ofChange differenceOtherWrong)

/-- 'tablefinderlaw37.DifferenceApplies': WHATEVER THE INPUT: true; the input reads as it did. -/
def differenceAppliesSpec : ChangeSpec := { name := "differenceApplies", fn := fun _ => fun
  | [d1, d2, d3, d4, d5] => { results := [.lit (.bool true)], args := [d1, d2, d3, d4, d5] }
  | _ => none }
def differenceAppliesRow : OpenClaim := { program := "ytplmjmhanplimaadoor", sum := "624704ac47d437fc199b5e70289a0e90668d786f545c89cfaa1d29da5cd77147", func := "tablefinder/tablefinderlaw37.DifferenceApplies", spec := "differenceApplies", inPlace := ["internal/bytealg.abigen_runtime_cmpstring"], unfollowed := true, recurses := true, named := ["unicode/utf8.first", "unicode/utf8.acceptRanges"], apart := false, laid := [("unicode/utf8.acceptRanges", laid_unicode_utf8_acceptRanges), ("unicode/utf8.first", laid_unicode_utf8_first)] }
def DifferenceAppliesSaid : Prop := differenceAppliesRow.holds Tryd.pinned (OpenSpec.ofChange differenceAppliesSpec)

/-- ITS FALSE NEIGHBOUR: 'it returns false'. Refute it at one input. -/
def differenceAppliesWrong : ChangeSpec := { name := "differenceApplies", fn := fun _ => fun
  | [d1, d2, d3, d4, d5] => { results := [.lit (.bool false)], args := [d1, d2, d3, d4, d5] }
  | _ => none }
def DifferenceAppliesWrongFalsely : Prop := differenceAppliesRow.holds Tryd.pinned (OpenSpec.ofChange differenceAppliesWrong)

/-- 'tablefinderlaw37.DifferenceLeads': WHATEVER THE INPUT: true; the input reads as it did. -/
def differenceLeadsSpec : ChangeSpec := { name := "differenceLeads", fn := fun _ => fun
  | [d] => { results := [.lit (.bool true)], args := [d] }
  | _ => none }
def differenceLeadsRow : OpenClaim := { program := "ytplmjmhanplimaadoor", sum := "624704ac47d437fc199b5e70289a0e90668d786f545c89cfaa1d29da5cd77147", func := "tablefinder/tablefinderlaw37.DifferenceLeads", spec := "differenceLeads", inPlace := ["internal/bytealg.abigen_runtime_cmpstring"], unfollowed := true, recurses := true, named := ["unicode/utf8.first", "unicode/utf8.acceptRanges"], apart := false, laid := [("unicode/utf8.acceptRanges", laid_unicode_utf8_acceptRanges), ("unicode/utf8.first", laid_unicode_utf8_first)] }
def DifferenceLeadsSaid : Prop := differenceLeadsRow.holds Tryd.pinned (OpenSpec.ofChange differenceLeadsSpec)

/-- ITS FALSE NEIGHBOUR: 'it returns false'. Refute it at one input. -/
def differenceLeadsWrong : ChangeSpec := { name := "differenceLeads", fn := fun _ => fun
  | [d] => { results := [.lit (.bool false)], args := [d] }
  | _ => none }
def DifferenceLeadsWrongFalsely : Prop := differenceLeadsRow.holds Tryd.pinned (OpenSpec.ofChange differenceLeadsWrong)

/-- 'tablefinderlaw41.SnapshotOnce': WHATEVER THE INPUT: true; the input reads as it did. -/
def snapshotOnceSpec : ChangeSpec := { name := "snapshotOnce", fn := fun _ => fun
  | [d] => { results := [.lit (.bool true)], args := [d] }
  | _ => none }
def snapshotOnceRow : OpenClaim := { program := "ytplmjmhanplimaadoor", sum := "624704ac47d437fc199b5e70289a0e90668d786f545c89cfaa1d29da5cd77147", func := "tablefinder/tablefinderlaw41.SnapshotOnce", spec := "snapshotOnce", unfollowed := true, recurses := true, named := ["unicode/utf8.first", "unicode/utf8.acceptRanges", "internal/strconv.uint64pow10", "math/bits.deBruijn32tab", "math/bits.deBruijn64tab"], apart := false, laid := [("math/bits.deBruijn32tab", laid_math_bits_deBruijn32tab), ("math/bits.deBruijn64tab", laid_math_bits_deBruijn64tab), ("internal/strconv.uint64pow10", laid_internal_strconv_uint64pow10), ("unicode/utf8.acceptRanges", laid_unicode_utf8_acceptRanges), ("unicode/utf8.first", laid_unicode_utf8_first)] }
def SnapshotOnceSaid : Prop := snapshotOnceRow.holds Tryd.pinned (OpenSpec.ofChange snapshotOnceSpec)

/-- ITS FALSE NEIGHBOUR: 'it returns false'. Refute it at one input. -/
def snapshotOnceWrong : ChangeSpec := { name := "snapshotOnce", fn := fun _ => fun
  | [d] => { results := [.lit (.bool false)], args := [d] }
  | _ => none }
def SnapshotOnceWrongFalsely : Prop := snapshotOnceRow.holds Tryd.pinned (OpenSpec.ofChange snapshotOnceWrong)

/-- 'tablefinderlaw41.SnapshotForgets': WHATEVER THE INPUT: true; the input reads as it did. -/
def snapshotForgetsSpec : ChangeSpec := { name := "snapshotForgets", fn := fun _ => fun
  | [d1, d2] => { results := [.lit (.bool true)], args := [d1, d2] }
  | _ => none }
def snapshotForgetsRow : OpenClaim := { program := "ytplmjmhanplimaadoor", sum := "624704ac47d437fc199b5e70289a0e90668d786f545c89cfaa1d29da5cd77147", func := "tablefinder/tablefinderlaw41.SnapshotForgets", spec := "snapshotForgets", unfollowed := true, recurses := true, named := ["unicode/utf8.first", "unicode/utf8.acceptRanges", "internal/strconv.uint64pow10", "math/bits.deBruijn32tab", "math/bits.deBruijn64tab"], apart := false, laid := [("math/bits.deBruijn32tab", laid_math_bits_deBruijn32tab), ("math/bits.deBruijn64tab", laid_math_bits_deBruijn64tab), ("internal/strconv.uint64pow10", laid_internal_strconv_uint64pow10), ("unicode/utf8.acceptRanges", laid_unicode_utf8_acceptRanges), ("unicode/utf8.first", laid_unicode_utf8_first)] }
def SnapshotForgetsSaid : Prop := snapshotForgetsRow.holds Tryd.pinned (OpenSpec.ofChange snapshotForgetsSpec)

/-- ITS FALSE NEIGHBOUR: 'it returns false'. Refute it at one input. -/
def snapshotForgetsWrong : ChangeSpec := { name := "snapshotForgets", fn := fun _ => fun
  | [d1, d2] => { results := [.lit (.bool false)], args := [d1, d2] }
  | _ => none }
def SnapshotForgetsWrongFalsely : Prop := snapshotForgetsRow.holds Tryd.pinned (OpenSpec.ofChange snapshotForgetsWrong)

/-- 'tablefinderlaw41.SnapshotActs': WHATEVER THE INPUT: true; the input reads as it did. -/
def snapshotActsSpec : ChangeSpec := { name := "snapshotActs", fn := fun _ => fun
  | [d1, d2, d3, d4, d5, d6, d7] => { results := [.lit (.bool true)], args := [d1, d2, d3, d4, d5, d6, d7] }
  | _ => none }
def snapshotActsRow : OpenClaim := { program := "ytplmjmhanplimaadoor", sum := "624704ac47d437fc199b5e70289a0e90668d786f545c89cfaa1d29da5cd77147", func := "tablefinder/tablefinderlaw41.SnapshotActs", spec := "snapshotActs", unfollowed := true, recurses := true, named := ["unicode/utf8.first", "unicode/utf8.acceptRanges", "internal/strconv.uint64pow10", "math/bits.deBruijn32tab", "math/bits.deBruijn64tab"], apart := false, laid := [("math/bits.deBruijn32tab", laid_math_bits_deBruijn32tab), ("math/bits.deBruijn64tab", laid_math_bits_deBruijn64tab), ("internal/strconv.uint64pow10", laid_internal_strconv_uint64pow10), ("unicode/utf8.acceptRanges", laid_unicode_utf8_acceptRanges), ("unicode/utf8.first", laid_unicode_utf8_first)] }
def SnapshotActsSaid : Prop := snapshotActsRow.holds Tryd.pinned (OpenSpec.ofChange snapshotActsSpec)

/-- ITS FALSE NEIGHBOUR: 'it returns false'. Refute it at one input. -/
def snapshotActsWrong : ChangeSpec := { name := "snapshotActs", fn := fun _ => fun
  | [d1, d2, d3, d4, d5, d6, d7] => { results := [.lit (.bool false)], args := [d1, d2, d3, d4, d5, d6, d7] }
  | _ => none }
def SnapshotActsWrongFalsely : Prop := snapshotActsRow.holds Tryd.pinned (OpenSpec.ofChange snapshotActsWrong)

/-- 'tablefinderlaw41.SnapshotStays': WHATEVER THE INPUT: true; the input reads as it did. -/
def snapshotStaysSpec : ChangeSpec := { name := "snapshotStays", fn := fun _ => fun
  | [d] => { results := [.lit (.bool true)], args := [d] }
  | _ => none }
def snapshotStaysRow : OpenClaim := { program := "ytplmjmhanplimaadoor", sum := "624704ac47d437fc199b5e70289a0e90668d786f545c89cfaa1d29da5cd77147", func := "tablefinder/tablefinderlaw41.SnapshotStays", spec := "snapshotStays", unfollowed := true, recurses := true, named := ["unicode/utf8.first", "unicode/utf8.acceptRanges", "internal/strconv.uint64pow10", "math/bits.deBruijn32tab", "math/bits.deBruijn64tab"], apart := false, laid := [("math/bits.deBruijn32tab", laid_math_bits_deBruijn32tab), ("math/bits.deBruijn64tab", laid_math_bits_deBruijn64tab), ("internal/strconv.uint64pow10", laid_internal_strconv_uint64pow10), ("unicode/utf8.acceptRanges", laid_unicode_utf8_acceptRanges), ("unicode/utf8.first", laid_unicode_utf8_first)] }
def SnapshotStaysSaid : Prop := snapshotStaysRow.holds Tryd.pinned (OpenSpec.ofChange snapshotStaysSpec)

/-- ITS FALSE NEIGHBOUR: 'it returns false'. Refute it at one input. -/
def snapshotStaysWrong : ChangeSpec := { name := "snapshotStays", fn := fun _ => fun
  | [d] => { results := [.lit (.bool false)], args := [d] }
  | _ => none }
def SnapshotStaysWrongFalsely : Prop := snapshotStaysRow.holds Tryd.pinned (OpenSpec.ofChange snapshotStaysWrong)

/- THE SECOND FORM. 'bulk': how many values and letters a reading holds, each counted each time it is reached (what is shared counts as often as it is met; a slice's spare places count too). A statement '..UptoSaid' is the law's where the arguments, and the package variables that the reading takes, are together of bulk at most 1048576: NARROWER than '..Said'. Prove '..Said' where nothing that the law and all that it calls make is longer than what came in: it says more and counts as full. Else prove '..UptoSaid'. A law counts once. -/
mutual
def uptoBulk {H : Type} : DataW H → Nat
  | .lit (.string bytes) => bytes.length + 1
  | .lit _ => 1
  | .nil => 1
  | .ptr d => uptoBulk d + 1
  | .slice elems spare => uptoBulkAll elems + uptoBulkAll spare + 1
  | .agg parts => uptoBulkAll parts + 1
  | .iface _ d => uptoBulk d + 1
  | .map entries => uptoBulkEntries entries + 1
  | .held _ => 1
def uptoBulkAll {H : Type} : List (DataW H) → Nat
  | [] => 0
  | d :: r => uptoBulk d + uptoBulkAll r
def uptoBulkEntries {H : Type} : List (Lit × DataW H) → Nat
  | [] => 0
  | x :: r => uptoBulkEntry x + uptoBulkEntries r
def uptoBulkEntry {H : Type} : Lit × DataW H → Nat
  | (.string bytes, d) => bytes.length + uptoBulk d + 1
  | (_, d) => uptoBulk d + 1
 end
def uptoSmall : (H : Type) → List (DataW H) → Bool := fun _ ds => decide (uptoBulkAll ds ≤ 1048576)
def OpenSpec.upto (s : _root_.Go.ChangeSpec) : _root_.Go.OpenSpec := { _root_.Go.OpenSpec.ofChange s with cond := some uptoSmall }

/-- 'tablefinderlaw37.DifferenceChain', WHERE WHAT IT READS IS OF BULK AT MOST 1048576: true; the input reads as it did. -/
def differenceChainUptoRow : OpenClaim := { program := "ytplmjmhanplimaadoor", sum := "624704ac47d437fc199b5e70289a0e90668d786f545c89cfaa1d29da5cd77147", func := "tablefinder/tablefinderlaw37.DifferenceChain", spec := "differenceChain", inPlace := ["internal/bytealg.abigen_runtime_cmpstring"], unfollowed := true, recurses := true, named := ["unicode/utf8.first", "unicode/utf8.acceptRanges"], apart := false, laid := [("unicode/utf8.acceptRanges", laid_unicode_utf8_acceptRanges), ("unicode/utf8.first", laid_unicode_utf8_first)], narrowed := true }
def DifferenceChainUptoSaid : Prop := differenceChainUptoRow.holds Tryd.pinned (OpenSpec.upto differenceChainSpec)

/-- 'tablefinderlaw37.DifferenceOther', WHERE WHAT IT READS IS OF BULK AT MOST 1048576: true; the input reads as it did. -/
def differenceOtherUptoRow : OpenClaim := { program := "ytplmjmhanplimaadoor", sum := "624704ac47d437fc199b5e70289a0e90668d786f545c89cfaa1d29da5cd77147", func := "tablefinder/tablefinderlaw37.DifferenceOther", spec := "differenceOther", inPlace := ["internal/bytealg.abigen_runtime_cmpstring"], unfollowed := true, recurses := true, named := ["unicode/utf8.first", "unicode/utf8.acceptRanges"], apart := false, laid := [("unicode/utf8.acceptRanges", laid_unicode_utf8_acceptRanges), ("unicode/utf8.first", laid_unicode_utf8_first)], narrowed := true }
def DifferenceOtherUptoSaid : Prop := differenceOtherUptoRow.holds Tryd.pinned (OpenSpec.upto differenceOtherSpec)

/-- 'tablefinderlaw37.DifferenceApplies', WHERE WHAT IT READS IS OF BULK AT MOST 1048576: true; the input reads as it did. -/
def differenceAppliesUptoRow : OpenClaim := { program := "ytplmjmhanplimaadoor", sum := "624704ac47d437fc199b5e70289a0e90668d786f545c89cfaa1d29da5cd77147", func := "tablefinder/tablefinderlaw37.DifferenceApplies", spec := "differenceApplies", inPlace := ["internal/bytealg.abigen_runtime_cmpstring"], unfollowed := true, recurses := true, named := ["unicode/utf8.first", "unicode/utf8.acceptRanges"], apart := false, laid := [("unicode/utf8.acceptRanges", laid_unicode_utf8_acceptRanges), ("unicode/utf8.first", laid_unicode_utf8_first)], narrowed := true }
def DifferenceAppliesUptoSaid : Prop := differenceAppliesUptoRow.holds Tryd.pinned (OpenSpec.upto differenceAppliesSpec)

/-- 'tablefinderlaw37.DifferenceLeads', WHERE WHAT IT READS IS OF BULK AT MOST 1048576: true; the input reads as it did. -/
def differenceLeadsUptoRow : OpenClaim := { program := "ytplmjmhanplimaadoor", sum := "624704ac47d437fc199b5e70289a0e90668d786f545c89cfaa1d29da5cd77147", func := "tablefinder/tablefinderlaw37.DifferenceLeads", spec := "differenceLeads", inPlace := ["internal/bytealg.abigen_runtime_cmpstring"], unfollowed := true, recurses := true, named := ["unicode/utf8.first", "unicode/utf8.acceptRanges"], apart := false, laid := [("unicode/utf8.acceptRanges", laid_unicode_utf8_acceptRanges), ("unicode/utf8.first", laid_unicode_utf8_first)], narrowed := true }
def DifferenceLeadsUptoSaid : Prop := differenceLeadsUptoRow.holds Tryd.pinned (OpenSpec.upto differenceLeadsSpec)

/-- 'tablefinderlaw41.SnapshotOnce', WHERE WHAT IT READS IS OF BULK AT MOST 1048576: true; the input reads as it did. -/
def snapshotOnceUptoRow : OpenClaim := { program := "ytplmjmhanplimaadoor", sum := "624704ac47d437fc199b5e70289a0e90668d786f545c89cfaa1d29da5cd77147", func := "tablefinder/tablefinderlaw41.SnapshotOnce", spec := "snapshotOnce", unfollowed := true, recurses := true, named := ["unicode/utf8.first", "unicode/utf8.acceptRanges", "internal/strconv.uint64pow10", "math/bits.deBruijn32tab", "math/bits.deBruijn64tab"], apart := false, laid := [("math/bits.deBruijn32tab", laid_math_bits_deBruijn32tab), ("math/bits.deBruijn64tab", laid_math_bits_deBruijn64tab), ("internal/strconv.uint64pow10", laid_internal_strconv_uint64pow10), ("unicode/utf8.acceptRanges", laid_unicode_utf8_acceptRanges), ("unicode/utf8.first", laid_unicode_utf8_first)], narrowed := true }
def SnapshotOnceUptoSaid : Prop := snapshotOnceUptoRow.holds Tryd.pinned (OpenSpec.upto snapshotOnceSpec)

/-- 'tablefinderlaw41.SnapshotForgets', WHERE WHAT IT READS IS OF BULK AT MOST 1048576: true; the input reads as it did. -/
def snapshotForgetsUptoRow : OpenClaim := { program := "ytplmjmhanplimaadoor", sum := "624704ac47d437fc199b5e70289a0e90668d786f545c89cfaa1d29da5cd77147", func := "tablefinder/tablefinderlaw41.SnapshotForgets", spec := "snapshotForgets", unfollowed := true, recurses := true, named := ["unicode/utf8.first", "unicode/utf8.acceptRanges", "internal/strconv.uint64pow10", "math/bits.deBruijn32tab", "math/bits.deBruijn64tab"], apart := false, laid := [("math/bits.deBruijn32tab", laid_math_bits_deBruijn32tab), ("math/bits.deBruijn64tab", laid_math_bits_deBruijn64tab), ("internal/strconv.uint64pow10", laid_internal_strconv_uint64pow10), ("unicode/utf8.acceptRanges", laid_unicode_utf8_acceptRanges), ("unicode/utf8.first", laid_unicode_utf8_first)], narrowed := true }
def SnapshotForgetsUptoSaid : Prop := snapshotForgetsUptoRow.holds Tryd.pinned (OpenSpec.upto snapshotForgetsSpec)

/-- 'tablefinderlaw41.SnapshotActs', WHERE WHAT IT READS IS OF BULK AT MOST 1048576: true; the input reads as it did. -/
def snapshotActsUptoRow : OpenClaim := { program := "ytplmjmhanplimaadoor", sum := "624704ac47d437fc199b5e70289a0e90668d786f545c89cfaa1d29da5cd77147", func := "tablefinder/tablefinderlaw41.SnapshotActs", spec := "snapshotActs", unfollowed := true, recurses := true, named := ["unicode/utf8.first", "unicode/utf8.acceptRanges", "internal/strconv.uint64pow10", "math/bits.deBruijn32tab", "math/bits.deBruijn64tab"], apart := false, laid := [("math/bits.deBruijn32tab", laid_math_bits_deBruijn32tab), ("math/bits.deBruijn64tab", laid_math_bits_deBruijn64tab), ("internal/strconv.uint64pow10", laid_internal_strconv_uint64pow10), ("unicode/utf8.acceptRanges", laid_unicode_utf8_acceptRanges), ("unicode/utf8.first", laid_unicode_utf8_first)], narrowed := true }
def SnapshotActsUptoSaid : Prop := snapshotActsUptoRow.holds Tryd.pinned (OpenSpec.upto snapshotActsSpec)

/-- 'tablefinderlaw41.SnapshotStays', WHERE WHAT IT READS IS OF BULK AT MOST 1048576: true; the input reads as it did. -/
def snapshotStaysUptoRow : OpenClaim := { program := "ytplmjmhanplimaadoor", sum := "624704ac47d437fc199b5e70289a0e90668d786f545c89cfaa1d29da5cd77147", func := "tablefinder/tablefinderlaw41.SnapshotStays", spec := "snapshotStays", unfollowed := true, recurses := true, named := ["unicode/utf8.first", "unicode/utf8.acceptRanges", "internal/strconv.uint64pow10", "math/bits.deBruijn32tab", "math/bits.deBruijn64tab"], apart := false, laid := [("math/bits.deBruijn32tab", laid_math_bits_deBruijn32tab), ("math/bits.deBruijn64tab", laid_math_bits_deBruijn64tab), ("internal/strconv.uint64pow10", laid_internal_strconv_uint64pow10), ("unicode/utf8.acceptRanges", laid_unicode_utf8_acceptRanges), ("unicode/utf8.first", laid_unicode_utf8_first)], narrowed := true }
def SnapshotStaysUptoSaid : Prop := snapshotStaysUptoRow.holds Tryd.pinned (OpenSpec.upto snapshotStaysSpec)

end Rows
end Go.Proofs.YtplmjmhanplimaaDoor
