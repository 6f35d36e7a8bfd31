/- Tables of a path. -/
import Derived.Test.YthlokmbefpjmgaaGreatDoorExOne
import Derived.Test.YthlokmbefpjmgaaGreatDoorSxFive
import Derived.Test.YthlokmbefpjmgaaGreatDoorJFour
import Derived.Test.YthlokmbefpjmgaaGreatDoorSxFour
set_option linter.unusedVariables false
set_option linter.unusedSimpArgs false
namespace Go.Sx.Sp
open Go Go.Sx Go.Proofs
attribute [local irreducible] aO famL
theorem v6{H:Nat→List Blk}{cs:List Column}(hF:H 902=famL (cs.length+2) fun _=>.rows 2 [] (some [])) :
  ∀(i:Nat) r1,(cD (bare cs))[i]?=some r1→∃r,(nilW cs)[i]?=some r∧r.length=r1.length∧∀(j:Nat) v1,r1[j]?=some v1→∃v,r[j]?=some v∧NilAs H v v1∧∀l,some [902]=some l→∀s∈v1.sites,s∈l:=by
 intro i r1 hi;have hlt:=(List.getElem?_eq_some_iff.1 hi).1;rw[eP] at hlt;have hlt2:i<cs.length:=by simpa[bare] using hlt
 rw[lQ hlt] at hi;cases hi;refine⟨[.str cs[i].name,.nils],by simp[nilW,hlt2],rfl,fun j v1 hj=>?_⟩;have hb:(bare cs)[i]=⟨cs[i].name,[]⟩:=by simp[bare]
 rw[hb] at hj
 match j,hj with
 | 0,hj=>cases hj;exact⟨_,rfl,.same _,fun l _ s hs=>by cases hs⟩
 | 1,hj =>
  cases hj;refine⟨.nils,rfl,.nil .nils 902 i 2 (some []) rfl (by rw[hF,dM (by omega)]),fun l hl s hs=>?_⟩;cases hl;simpa[V.sites] using hs
 |j+2,hj=>simp[colW] at hj
theorem Cu(cs:List Column):(famL (cs.length+2) fun _=>.rows 2 [] (some []))=famL ((bare cs).length+2) (colF (bare cs)):=by
 rw[show(bare cs).length=cs.length by simp[bare]];refine ik fun i _=>?_;unfold colF bare;rw[List.getElem?_map];cases cs[i]?<;>rfl
theorem Ac{H:Nat→List Blk}{bo:List Nat}{C:List Column}{n:Nat}{ks:Option (List Nat)}(hb:memB 902 bo=true)(hn:C.length≤n)(hF:H 902=famL n (colF C)):BLent H bo (.rows 2 (cD C) ks) (.rows 2 (ai C) (some [])):=by
 refine .rowsF _ _ _ _ (by rw[eP,aB]) fun i r1 hi=>?_;have hlt:=(List.getElem?_eq_some_iff.1 hi).1;rw[aB] at hlt;rw[aW hlt] at hi;cases hi;refine⟨_,lQ hlt,rfl,fun j v1 hj=>?_⟩
 match j,hj with
 | 0,hj=>cases hj;exact⟨_,rfl,.refl _,rfl,rfl⟩
 | 1,hj =>
  cases hj;refine⟨_,rfl,?_,rfl,rfl⟩;have h1:(H 902)[i]?=some (.rows 2 (aj C[i].cells) (some [])):=by rw[hF,dM (by omega),yf hlt]
  have:=Lent.oslF (H:=H) (bo:=bo) 902 i 0 C[i].cells.length C[i].cells.length 2 (aj C[i].cells) (some []) hb h1 (aF _).symm (.inl rfl);rw[List.drop_zero,List.take_of_length_le (by rw[aF];exact Nat.le_refl _)] at this;exact this
 |j+2,hj=>simp[Column.row] at hj
section
variable {l:List Table}{a b:Table}{x y:Nat}
end
end Go.Sx.Sp
namespace Go.Sx.Sp
open Go Go.Sx Go.Proofs
attribute [local irreducible] aO famL
end Go.Sx.Sp
namespace Go.Sx.Sp
open Go Go.Sx Go.Proofs Go.RowKit
attribute [local irreducible] aO famL
section
variable (l:List Table) (p:Pth)
end
section
variable {l:List Table}{p:Pth}
end
end Go.Sx.Sp
namespace Go.Sx.Sp
open Go Go.Sx Go.Proofs Go.RowKit
attribute [local irreducible] aO famL
end Go.Sx.Sp
