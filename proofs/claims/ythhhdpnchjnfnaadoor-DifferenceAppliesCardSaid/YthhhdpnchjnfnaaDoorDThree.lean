/- What takes a delta back; choosing rows. -/
import Derived.Test.YthhhdpnchjnfnaaDoorDTwo
import Derived.Test.YthhhdpnchjnfnaaDoorSxFour
set_option linter.unusedVariables false
set_option linter.unusedSimpArgs false
namespace Go.Sx.Sp
open Go Go.Sx Go.Proofs
attribute [local irreducible] GoodW
def ixG (s:Str) (l:List Str):Nat:=(ixS s l).getD 0
def turnD (t:Table) (k:Nat) (d:Delta):Delta:=⟨sortK Cell.text (d.add.map fun r=>cellI r k),sortK (keyAt k) (d.drop.map fun c=>rowM t (ixG c.text (textsOf (colK t k))))⟩
def turnM (t:Table) (key:Int) (d:Delta):Delta×Int:=if mayM t key d=0 then (turnD t key.toNat d,0) else (Delta.zero,mayM t key d)
theorem dropK_mem:∀ (ds:List Cell) (L L':List Str),dropK L ds=some L'→∀ c∈ds,c.text∈L:=by
 intro ds
 induction ds with
 | nil=>intro L L' _ c hc;cases hc
 | cons d ds ih =>
  intro L L' h c hc
  unfold dropK at h
  split at h
  ·rename_i h1
   rcases List.mem_cons.1 hc with rfl | hc
   ·exact h1.1
   ·exact List.mem_of_mem_erase (ih _ _ h c hc)
  ·cases h
theorem may_ok {t:Table}{key:Int}{d:Delta}(h:mayM t key d=0):validB t=true∧goodD t.cols.length d=true∧checkM key [t]=0∧clashD (textsOf (colK t key.toNat)) key.toNat d=false∧(rowsN t:Int)-d.drop.length+d.add.length≤4096:=by
 unfold mayM at h
 split at h
 ·rename_i h1
  split at h
  ·rename_i h2
   split at h
   ·cases h
   ·rename_i h3
    split at h
    ·cases h
    ·rename_i h4
     exact ⟨h1.1,h1.2,h2,by simpa using h3,by omega⟩
  ·rename_i h2;exact absurd h h2
 ·cases h
theorem good_row {n:Nat}{d:Delta}(h:goodD n d=true) {r:List Cell}(hr:r∈d.add):r.length=n:=by
 unfold goodD at h
 rw [Bool.and_eq_true] at h
 have:=List.all_eq_true.1 h.1 r hr
 simp only [Bool.and_eq_true,decide_eq_true_eq] at this
 omega
theorem cell_at {r:List Cell}{k:Nat}(h:k<r.length):r[k]=cellI r k:=by simp [cellI,h]
theorem line_cell {r:List Cell}{k:Nat}(h:k<r.length):(cellRows r)[k]?=some (cellI r k).row:=by rw [cellRows_get h,cell_at h]
theorem valid_good {t:Table}(h:validB t=true) {c:Column}(hc:c∈t.cols):∀ x∈c.cells,cellB x=true:=by
 simp only [validB,headB,Bool.and_eq_true,decide_eq_true_eq,Bool.not_eq_true',List.any_eq_false] at h
 have h6:=h.2 c hc
 simp only [badCol,Bool.or_eq_true,decide_eq_true_eq,not_or,Decidable.not_not,Bool.not_eq_true',Bool.not_eq_false] at h6
 exact List.all_eq_true.1 h6.2
def natL (rs:List Nat):List Int:=rs.map fun n:Nat=>(n:Int)
theorem natL_len (rs:List Nat):(natL rs).length=rs.length:=by simp [natL]
theorem natL_get {rs:List Nat}{i:Nat}(h:i<rs.length):(intRows .i64 (natL rs))[i]?=some [.int .i64 (rs[i]:Nat)]:=by
 rw [intRows_get (k:=.i64) (by rw [natL_len];exact h)]
 simp [natL]
theorem natLRows_len (rs:List Nat):(intRows .i64 (natL rs)).length=rs.length:=by rw [intRows_len,natL_len]
theorem cellRows_snocS (a:List Cell) (c:Cell):cellRows (a++[c])=cellRows a++[c.row]:=by simp [cellRows]
end Go.Sx.Sp
namespace Go.Sx.Sp
open Go Go.Sx Go.Proofs Go.RowKit Go.Shelf
attribute [local irreducible] GoodW
attribute [local instance] GQ
end Go.Sx.Sp
namespace Go.Sx.Sp
open Go Go.Sx Go.Proofs Go.Sort
attribute [local irreducible] GoodW
def ordM (t:Table) (k:Nat):List Nat:=sortK (fun i=>(cellI (colK t k) i).text) (List.range (rowsN t))
def natRowsS (l:List Nat):List (List V):=intRows .i64 (natL l)
theorem natRowsS_len (l:List Nat):(natRowsS l).length=l.length:=natLRows_len l
end Go.Sx.Sp
namespace Go.Sx.Sp
open Go Go.Sx Go.Proofs
attribute [local irreducible] GoodW
theorem bytesLess_iff:∀ a b:Str,Op.bytesLess a b=true↔Lib.compareBytes a b<0
 | [],[]=>by decide
 | [],_::_=>by simp [Op.bytesLess,Lib.compareBytes]
 | _::_,[]=>by simp [Op.bytesLess,Lib.compareBytes]
 | x::a,y::b=>by
  have ih:=bytesLess_iff a b
  unfold Op.bytesLess Lib.compareBytes
  by_cases h1:x<y
  ·simp [h1]
  ·by_cases h2:y<x
   ·have h3:x≠y:=fun e=>by subst e;exact h1 h2
    simp [h1,h2,h3]
   ·have h3:x=y:=by
     rw [UInt8.lt_iff_toNat_lt] at h1 h2
     exact UInt8.toNat_inj.1 (by omega)
    subst h3
    simp [h1,ih]
theorem sortK_perm {α:Type}{key:α→Str}(l:List α):(sortK key l).Perm l:=by
 have hi:∀ (l:List α) (x:α),(insK key l x).Perm (x::l):=fun l x=>by
  unfold insK
  refine List.perm_middle.trans ?_
  rw [List.take_append_drop]
 have h:∀ (l s:List α),(l.foldl (insK key) s).Perm (l++s):=by
  intro l
  induction l with
  | nil=>intro s;exact List.Perm.refl _
  | cons x l ih =>
   intro s
   rw [List.foldl_cons]
   refine (ih _).trans (((hi s x).append_left l).trans ?_)
   exact List.perm_middle
 have:=h l []
 simpa [sortK] using this
theorem ordM_perm (t:Table) (k:Nat):(ordM t k).Perm (List.range (rowsN t)):=sortK_perm _
theorem ordM_len (t:Table) (k:Nat):(ordM t k).length=rowsN t:=by rw [(ordM_perm t k).length_eq,List.length_range]
theorem ordM_lt {t:Table}{k i:Nat}(h:i∈ordM t k):i<rowsN t:=List.mem_range.1 ((ordM_perm t k).mem_iff.1 h)
end Go.Sx.Sp
