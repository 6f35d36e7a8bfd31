/-
  No cell of these rows narrows 'for every input' (looked for: loops, veiled, ifaces, maps, wideKeys, modest, calm, conditions, laid).
  DERIVED. THE GIVEN ROWS OF THIS SEAT. 5 by the template 'for every input the law returns true; each argument reads behind the call as it read before'; 0 by the template 'total and deterministic' (their statements: YtjlfdbjgjohbcaaTotals.lean).
  GIVEN WITH THE SEED: the statements are not yours to turn. If you find one false, say at which input.
  Laid BY PROGRAM, IN A SANDBOX (cutbox-rows.mjs): the forced cells as the released guide's own fill.sh prints them over the translation 2eaedcb876c04167… (all of the seat's roots in one cut). By AI agents, Wed Nov 11 2026. No macro, syntax, notation, axiom, sorry.
-/
import Derived.Test.YtjlfdbjgjohbcaaChecked
import GoSem.Claim
import GoSem.ClaimJoined
import GoSem.ClaimMapViews
import Derived.JoinedTies
import Derived.KernelRfl
namespace Go.Proofs.Ytjlfdbjgjohbcaa
/- THE CELL 'sum', in the pinned program and in every row, IS THE sha256 OF THE DUMP (.gsa) THAT YtjlfdbjgjohbcaaProg.lean LOADS. Nothing in Lean hashes anything: it is a label: what it is worth is what the hold of that sum in a sandbox is worth. -/
noncomputable def Try.pinned : Pinned := { name := "ytjlfdbjgjohbcaa", sum := "2eaedcb876c0416714a04e6d425faeac020ec6861b44c76e13e84aacc0e46e59", checked := Try.checked }
namespace Rows
def none {H : Type} : Left H := { results := [], args := [] }

/-- 'tablefinderlaw15.SpillMemory': WHATEVER THE INPUT: true; the input reads as it did. -/
def spillMemorySpec : ChangeSpec := { name := "spillMemory", fn := fun _ => fun
  | [d1, d2, d3] => { results := [.lit (.bool true)], args := [d1, d2, d3] }
  | _ => none }
def spillMemoryRow : OpenClaim := { program := "ytjlfdbjgjohbcaa", sum := "2eaedcb876c0416714a04e6d425faeac020ec6861b44c76e13e84aacc0e46e59", func := "tablefinder/tablefinderlaw15.SpillMemory", spec := "spillMemory", inPlace := ["slices.overlaps[tablefinder/api.Count]"], unfollowed := true, recurses := true, apart := false }
def SpillMemorySaid : Prop := spillMemoryRow.holds Try.pinned (OpenSpec.ofChange spillMemorySpec)

/-- ITS FALSE NEIGHBOUR: 'it returns false'. Refute it at one input. -/
def spillMemoryWrong : ChangeSpec := { name := "spillMemory", fn := fun _ => fun
  | [d1, d2, d3] => { results := [.lit (.bool false)], args := [d1, d2, d3] }
  | _ => none }
def SpillMemoryWrongFalsely : Prop := spillMemoryRow.holds Try.pinned (OpenSpec.ofChange spillMemoryWrong)

/-- 'tablefinderlaw15.SpillCounts': WHATEVER THE INPUT: true; the input reads as it did. -/
def spillCountsSpec : ChangeSpec := { name := "spillCounts", fn := fun _ => fun
  | [d1, d2, d3] => { results := [.lit (.bool true)], args := [d1, d2, d3] }
  | _ => none }
def spillCountsRow : OpenClaim := { program := "ytjlfdbjgjohbcaa", sum := "2eaedcb876c0416714a04e6d425faeac020ec6861b44c76e13e84aacc0e46e59", func := "tablefinder/tablefinderlaw15.SpillCounts", spec := "spillCounts", inPlace := ["slices.overlaps[tablefinder/api.Count]"], unfollowed := true, recurses := true, apart := false }
def SpillCountsSaid : Prop := spillCountsRow.holds Try.pinned (OpenSpec.ofChange spillCountsSpec)

/-- ITS FALSE NEIGHBOUR: 'it returns false'. Refute it at one input. -/
def spillCountsWrong : ChangeSpec := { name := "spillCounts", fn := fun _ => fun
  | [d1, d2, d3] => { results := [.lit (.bool false)], args := [d1, d2, d3] }
  | _ => none }
def SpillCountsWrongFalsely : Prop := spillCountsRow.holds Try.pinned (OpenSpec.ofChange spillCountsWrong)

/-- 'tablefinderlaw15.SpillWrites': WHATEVER THE INPUT: true; the input reads as it did. -/
def spillWritesSpec : ChangeSpec := { name := "spillWrites", fn := fun _ => fun
  | [d1, d2] => { results := [.lit (.bool true)], args := [d1, d2] }
  | _ => none }
def spillWritesRow : OpenClaim := { program := "ytjlfdbjgjohbcaa", sum := "2eaedcb876c0416714a04e6d425faeac020ec6861b44c76e13e84aacc0e46e59", func := "tablefinder/tablefinderlaw15.SpillWrites", spec := "spillWrites", inPlace := ["slices.overlaps[tablefinder/api.Count]"], unfollowed := true, recurses := true, apart := false }
def SpillWritesSaid : Prop := spillWritesRow.holds Try.pinned (OpenSpec.ofChange spillWritesSpec)

/-- ITS FALSE NEIGHBOUR: 'it returns false'. Refute it at one input. -/
def spillWritesWrong : ChangeSpec := { name := "spillWrites", fn := fun _ => fun
  | [d1, d2] => { results := [.lit (.bool false)], args := [d1, d2] }
  | _ => none }
def SpillWritesWrongFalsely : Prop := spillWritesRow.holds Try.pinned (OpenSpec.ofChange spillWritesWrong)

/-- 'tablefinderlaw15.SpillSorts': WHATEVER THE INPUT: true; the input reads as it did. -/
def spillSortsSpec : ChangeSpec := { name := "spillSorts", fn := fun _ => fun
  | [d1, d2] => { results := [.lit (.bool true)], args := [d1, d2] }
  | _ => none }
def spillSortsRow : OpenClaim := { program := "ytjlfdbjgjohbcaa", sum := "2eaedcb876c0416714a04e6d425faeac020ec6861b44c76e13e84aacc0e46e59", func := "tablefinder/tablefinderlaw15.SpillSorts", spec := "spillSorts", inPlace := ["slices.overlaps[tablefinder/api.Count]"], unfollowed := true, recurses := true, apart := false }
def SpillSortsSaid : Prop := spillSortsRow.holds Try.pinned (OpenSpec.ofChange spillSortsSpec)

/-- ITS FALSE NEIGHBOUR: 'it returns false'. Refute it at one input. -/
def spillSortsWrong : ChangeSpec := { name := "spillSorts", fn := fun _ => fun
  | [d1, d2] => { results := [.lit (.bool false)], args := [d1, d2] }
  | _ => none }
def SpillSortsWrongFalsely : Prop := spillSortsRow.holds Try.pinned (OpenSpec.ofChange spillSortsWrong)

/-- 'tablefinderlaw15.SpillSteps': WHATEVER THE INPUT: true; the input reads as it did. -/
def spillStepsSpec : ChangeSpec := { name := "spillSteps", fn := fun _ => fun
  | [d1, d2, d3, d4, d5] => { results := [.lit (.bool true)], args := [d1, d2, d3, d4, d5] }
  | _ => none }
def spillStepsRow : OpenClaim := { program := "ytjlfdbjgjohbcaa", sum := "2eaedcb876c0416714a04e6d425faeac020ec6861b44c76e13e84aacc0e46e59", func := "tablefinder/tablefinderlaw15.SpillSteps", spec := "spillSteps", inPlace := ["slices.overlaps[tablefinder/api.Count]"], unfollowed := true, recurses := true, apart := false }
def SpillStepsSaid : Prop := spillStepsRow.holds Try.pinned (OpenSpec.ofChange spillStepsSpec)

/-- ITS FALSE NEIGHBOUR: 'it returns false'. Refute it at one input. -/
def spillStepsWrong : ChangeSpec := { name := "spillSteps", fn := fun _ => fun
  | [d1, d2, d3, d4, d5] => { results := [.lit (.bool false)], args := [d1, d2, d3, d4, d5] }
  | _ => none }
def SpillStepsWrongFalsely : Prop := spillStepsRow.holds Try.pinned (OpenSpec.ofChange spillStepsWrong)

/- THE SECOND FORM. 'bulk': how many values and letters a reading holds, each counted each time it is reached (what is shared counts as often as it is met; a slice's spare places count too). A statement '..UptoSaid' is the law's where the arguments, and the package variables that the reading takes, are together of bulk at most 1048576: NARROWER than '..Said'. Prove '..Said' where nothing that the law and all that it calls make is longer than what came in: it says more and counts as full. Else prove '..UptoSaid'. A law counts once. -/
mutual
def uptoBulk {H : Type} : DataW H → Nat
  | .lit (.string bytes) => bytes.length + 1
  | .lit _ => 1
  | .nil => 1
  | .ptr d => uptoBulk d + 1
  | .slice elems spare => uptoBulkAll elems + uptoBulkAll spare + 1
  | .agg parts => uptoBulkAll parts + 1
  | .iface _ d => uptoBulk d + 1
  | .map entries => uptoBulkEntries entries + 1
  | .held _ => 1
def uptoBulkAll {H : Type} : List (DataW H) → Nat
  | [] => 0
  | d :: r => uptoBulk d + uptoBulkAll r
def uptoBulkEntries {H : Type} : List (Lit × DataW H) → Nat
  | [] => 0
  | x :: r => uptoBulkEntry x + uptoBulkEntries r
def uptoBulkEntry {H : Type} : Lit × DataW H → Nat
  | (.string bytes, d) => bytes.length + uptoBulk d + 1
  | (_, d) => uptoBulk d + 1
 end
def uptoSmall : (H : Type) → List (DataW H) → Bool := fun _ ds => decide (uptoBulkAll ds ≤ 1048576)
def OpenSpec.upto (s : _root_.Go.ChangeSpec) : _root_.Go.OpenSpec := { _root_.Go.OpenSpec.ofChange s with cond := some uptoSmall }

/-- 'tablefinderlaw15.SpillMemory', WHERE WHAT IT READS IS OF BULK AT MOST 1048576: true; the input reads as it did. -/
def spillMemoryUptoRow : OpenClaim := { program := "ytjlfdbjgjohbcaa", sum := "2eaedcb876c0416714a04e6d425faeac020ec6861b44c76e13e84aacc0e46e59", func := "tablefinder/tablefinderlaw15.SpillMemory", spec := "spillMemory", inPlace := ["slices.overlaps[tablefinder/api.Count]"], unfollowed := true, recurses := true, apart := false, narrowed := true }
def SpillMemoryUptoSaid : Prop := spillMemoryUptoRow.holds Try.pinned (OpenSpec.upto spillMemorySpec)

/-- 'tablefinderlaw15.SpillCounts', WHERE WHAT IT READS IS OF BULK AT MOST 1048576: true; the input reads as it did. -/
def spillCountsUptoRow : OpenClaim := { program := "ytjlfdbjgjohbcaa", sum := "2eaedcb876c0416714a04e6d425faeac020ec6861b44c76e13e84aacc0e46e59", func := "tablefinder/tablefinderlaw15.SpillCounts", spec := "spillCounts", inPlace := ["slices.overlaps[tablefinder/api.Count]"], unfollowed := true, recurses := true, apart := false, narrowed := true }
def SpillCountsUptoSaid : Prop := spillCountsUptoRow.holds Try.pinned (OpenSpec.upto spillCountsSpec)

/-- 'tablefinderlaw15.SpillWrites', WHERE WHAT IT READS IS OF BULK AT MOST 1048576: true; the input reads as it did. -/
def spillWritesUptoRow : OpenClaim := { program := "ytjlfdbjgjohbcaa", sum := "2eaedcb876c0416714a04e6d425faeac020ec6861b44c76e13e84aacc0e46e59", func := "tablefinder/tablefinderlaw15.SpillWrites", spec := "spillWrites", inPlace := ["slices.overlaps[tablefinder/api.Count]"], unfollowed := true, recurses := true, apart := false, narrowed := true }
def SpillWritesUptoSaid : Prop := spillWritesUptoRow.holds Try.pinned (OpenSpec.upto spillWritesSpec)

/-- 'tablefinderlaw15.SpillSorts', WHERE WHAT IT READS IS OF BULK AT MOST 1048576: true; the input reads as it did. -/
def spillSortsUptoRow : OpenClaim := { program := "ytjlfdbjgjohbcaa", sum := "2eaedcb876c0416714a04e6d425faeac020ec6861b44c76e13e84aacc0e46e59", func := "tablefinder/tablefinderlaw15.SpillSorts", spec := "spillSorts", inPlace := ["slices.overlaps[tablefinder/api.Count]"], unfollowed := true, recurses := true, apart := false, narrowed := true }
def SpillSortsUptoSaid : Prop := spillSortsUptoRow.holds Try.pinned (OpenSpec.upto spillSortsSpec)

/-- 'tablefinderlaw15.SpillSteps', WHERE WHAT IT READS IS OF BULK AT MOST 1048576: true; the input reads as it did. -/
def spillStepsUptoRow : OpenClaim := { program := "ytjlfdbjgjohbcaa", sum := "2eaedcb876c0416714a04e6d425faeac020ec6861b44c76e13e84aacc0e46e59", func := "tablefinder/tablefinderlaw15.SpillSteps", spec := "spillSteps", inPlace := ["slices.overlaps[tablefinder/api.Count]"], unfollowed := true, recurses := true, apart := false, narrowed := true }
def SpillStepsUptoSaid : Prop := spillStepsUptoRow.holds Try.pinned (OpenSpec.upto spillStepsSpec)

end Rows
end Go.Proofs.Ytjlfdbjgjohbcaa
