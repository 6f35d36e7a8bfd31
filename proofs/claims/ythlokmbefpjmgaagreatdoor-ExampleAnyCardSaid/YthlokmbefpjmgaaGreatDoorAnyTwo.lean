/- Tables that are made of others, and the law of the example of nulls alone. -/
import Derived.Test.YthlokmbefpjmgaaGreatDoorAnyOne
import Derived.Test.YthlokmbefpjmgaaGreatDoorRtOne
import Derived.Test.YthlokmbefpjmgaaGreatDoorExTen
import Derived.Test.YthlokmbefpjmgaaGreatDoorJFour
import Derived.Test.YthlokmbefpjmgaaGreatDoorSxFour
set_option linter.unusedVariables false
set_option linter.unusedSimpArgs false
namespace Go.Sx.Sp
open Go Go.Sx Go.Proofs
attribute [local irreducible] GoodW famL
def opCell (t:Table) (o:OpR) (k:Nat):Cell:=cellT t o.col.toNat k
def sortC (t:Table) (o:OpR) (x y:Nat):Int:=-cmpV (opCell t o y) (opCell t o x)
def keepM (t:Table) (o:OpR) (O:List Nat) (r:Nat):Bool:=if o.kind=1 then !(opCell t o r).null&&decide ((opCell t o r).text=o.text) else if o.kind=2 then !(opCell t o r).null else if o.kind=4 then O.all fun x=>!eqRow t x r else true
def posM (t:Table) (o:OpR) (O:List Nat) (r:Nat):Nat:=if o.kind=5 then plcC (sortC t o) O r O.length else O.length
def stepR (t:Table) (o:OpR) (O:List Nat) (r:Nat):List Nat:=if keepM t o O r=true then O.take (posM t o O r)++r::O.drop (posM t o O r) else O
def rowsM (t:Table) (o:OpR) (n:Nat):List Nat:=(List.range n).foldl (stepR t o) []
theorem rowsM_succ (t:Table) (o:OpR) (n:Nat):rowsM t o (n+1)=stepR t o (rowsM t o n) n:=by
 unfold rowsM;rw [List.range_succ,List.foldl_append];rfl
theorem stepR_mem {t:Table}{o:OpR}{O:List Nat}{r x:Nat}(h:x∈stepR t o O r):x∈O∨x=r:=by
 unfold stepR at h;split at h
 ·rcases List.mem_append.1 h with h | h
  ·exact .inl (List.mem_of_mem_take h)
  ·rcases List.mem_cons.1 h with h | h
   ·exact .inr h
   ·exact .inl (List.mem_of_mem_drop h)
 ·exact .inl h
theorem stepR_len (t:Table) (o:OpR) (O:List Nat) (r:Nat):(stepR t o O r).length≤O.length+1:=by
 unfold stepR;split
 ·rw [List.length_append,List.length_take,List.length_cons,List.length_drop];omega
 ·omega
theorem rowsM_ok (t:Table) (o:OpR):∀ n,(rowsM t o n).length≤n∧∀ x∈rowsM t o n,x<n
 | 0=>⟨Nat.le_refl _,fun x h=>by cases h⟩
 | n+1=>by
  obtain ⟨h1,h2⟩:=rowsM_ok t o n;rw [rowsM_succ];refine ⟨Nat.le_trans (stepR_len t o _ n) (by omega),fun x hx=>?_⟩;rcases stepR_mem hx with h | h
  ·have:=h2 x h;omega
  ·omega
theorem posM_le (t:Table) (o:OpR) (O:List Nat) (r:Nat):posM t o O r≤O.length:=by
 unfold posM;split
 ·exact plcC_le _ _ _ _
 ·exact Nat.le_refl _
theorem natRows_sz1 (l:List Nat):rowsSz (natRows l) 1:=by
 unfold rowsSz natRows;intro r hr;obtain ⟨c,_,rfl⟩:=List.mem_map.1 hr;rfl
set_option maxHeartbeats 16000000 in
theorem rows38_spec {t:Table}{o:OpR}(ht:RectT t) (hb:rowsN t≤4096) (h:GoodOp t o) (h3:o.kind≠3):Spec Tryz.prog 195 [.agg t.row,.agg o.row] [] (.sl (natRows (rowsM t o (rowsN t))) false) []:=by
 obtain ⟨⟨k1,k2⟩,⟨c1,c2,c3⟩,_,_⟩:=h;have hcl:=colRows_len t.cols;have spR:=rows3_spec t;have hcell:∀ r,r<rowsN t→∃ c:Column,(colRows t.cols)[o.col.toNat]?=some c.row∧(cellRows c.cells)[r]?=some (opCell t o r).row:=fun r hr=>by
  have hn:0<t.cols.length:=by
   rcases Nat.eq_zero_or_pos t.cols.length with h | h
   ·unfold rowsN at hr;rw [List.length_eq_zero_iff.1 h] at hr;cases hr
   ·exact h
  have:=c2 hn;have hcl4:o.col.toNat<t.cols.length:=by omega
  exact ⟨t.cols[o.col.toNat],colRows_get hcl4,(cellT_get ht hcl4 hr).1⟩
 obtain ⟨kind,col,text,cols⟩:=o;simp only at k1 k2 c1 c2 c3 h3 hcell;show Spec Tryz.prog 195 [.agg t.row,.agg [.int .i64 kind,.int .i64 col,.str text,.sl (intRows .i64 cols) false]] [] _ [];refine gEn env Tryz.func195 fun Γ hN hK hML=>?_;(refine g ?_;intros);refine W.loopG (fun n st=>∃ (r:Nat) (O:List Nat),r≤rowsN t∧O=rowsM t ⟨kind,col,text,cols⟩ r∧n=rowsN t-r∧st=⟨[(2,.bp 2 0),(3,.bp 3 0),(5,.sl (natRows O) false),(14,.int .i64 (rowsN t:Nat)),(15,.int .i64 (r:Nat))],[(2,[.rows 3 [t.row] none]),(3,[.rows 4 [[.int .i64 kind,.int .i64 col,.str text,.sl (intRows .i64 cols) false]] none])],[2,3]⟩)
  (rowsN t) _ ⟨0,[],Nat.zero_le _,rfl,rfl,rfl⟩ (gX (henv:=by repeat' (first | exact trivial | exact ⟨_,.refl _,rfl⟩ | exact ⟨_,.norm _,rfl⟩ | apply And.intro))) ?_
 rintro n st ⟨r,O,hr,hO,rfl,rfl⟩;have hol:=natRows_len O;obtain ⟨hO1,hO2⟩:=rowsM_ok t ⟨kind,col,text,cols⟩ r;rw [←hO] at hO1 hO2;(refine g ?_;intros);refine boolRes_split (fun hb=>?_) (fun hb=>?_)<;>conv=>whnf
 ·have hrl:r<rowsN t:=by omega
  have hsu:=rowsM_succ t ⟨kind,col,text,cols⟩ r;rw [←hO] at hsu;have hple:=posM_le t ⟨kind,col,text,cols⟩ O r;clear hO;refine gA ?_;refine gC rfl ?_;refine gF ?_;(conv=>whnf);refine gA ?_;refine gB ?_;refine gA ?_;(refine gE env hN (by kernel_rfl) ?_;conv=>whnf);refine gGs ?_;intros;refine gA ?_;(refine gE env hN (by kernel_rfl) ?_;conv=>whnf);refine gGs ?_;intros;refine W.cut (fun z=>∃ (p:Nat) (b:Bool),b=keepM t ⟨kind,col,text,cols⟩ O r∧(b=true→p=posM t ⟨kind,col,text,cols⟩ O r)∧z=⟨[(2,.bp 2 0),(3,.bp 3 0),(5,.sl (natRows O) false),(14,.int .i64 (rowsN t:Nat)),(15,.int .i64 (r:Nat)),(6,.int .i64 (r:Nat)),(7,.int .i64 (p:Nat)),(8,.bool b)],[(2,[.rows 3 [t.row] none]),(3,[.rows 4 [[.int .i64 kind,.int .i64 col,.str text,.sl (intRows .i64 cols) false]] none])],[2,3]⟩) ?_ ?_
  ·obtain ⟨c,hc1,hc2⟩:=hcell r hrl;rcases (show kind=1∨kind=2∨kind=4∨kind=5 by omega) with rfl | rfl | rfl | rfl
   ·have hk:keepM t ⟨1,col,text,cols⟩ O r=(!(opCell t ⟨1,col,text,cols⟩ r).null&&decide ((opCell t ⟨1,col,text,cols⟩ r).text=text)):=rfl;have hp:posM t ⟨1,col,text,cols⟩ O r=(natRows O).length:=by rw [hol];rfl
    generalize opCell t ⟨1,col,text,cols⟩ r=x at *;obtain ⟨xn,xt⟩:=x;cases xn with
    | true =>
     (refine g ?_;intros);exact ⟨_,⟨_,_,hk.symm,fun _=>hp.symm,rfl⟩,gY⟩
    | false =>
     by_cases e:xt=text
     ·rw [decide_eq_true e] at hk;(refine g ?_;intros);exact ⟨_,⟨_,_,hk.symm,fun _=>hp.symm,rfl⟩,gY⟩
     ·rw [decide_eq_false e] at hk;(refine g ?_;intros);exact ⟨_,⟨_,_,hk.symm,fun _=>hp.symm,rfl⟩,gY⟩
   ·have hk:keepM t ⟨2,col,text,cols⟩ O r=!(opCell t ⟨2,col,text,cols⟩ r).null:=rfl;have hp:posM t ⟨2,col,text,cols⟩ O r=(natRows O).length:=by rw [hol];rfl
    generalize opCell t ⟨2,col,text,cols⟩ r=x at *;(refine g ?_;intros);exact ⟨_,⟨_,_,hk.symm,fun _=>hp.symm,rfl⟩,gY⟩
   ·have hk:keepM t ⟨4,col,text,cols⟩ O r=O.all fun x=>!eqRow t x r:=rfl;have hp:posM t ⟨4,col,text,cols⟩ O r=(natRows O).length:=by rw [hol];rfl
    (refine g ?_;intros);refine W.loopG (fun n st=>∃ (i:Nat) (b:Bool),i≤O.length∧(b&&(O.drop i).all fun x=>!eqRow t x r)=keepM t ⟨4,col,text,cols⟩ O r∧n=O.length-i∧st=(fun p=>⟨[(2,.bp 2 0),(3,.bp 3 0),(5,.sl (natRows O) false),(14,.int .i64 (rowsN t:Nat)),(15,.int .i64 (r:Nat)),(6,.int .i64 (r:Nat)),(7,.int .i64 (p:Nat)),(8,.bool b),(60,.sl (natRows O) false),(61,.int .i64 (natRows O).length),(62,.int .i64 (i:Nat))],[(2,[.rows 3 [t.row] none]),(3,[.rows 4 [[.int .i64 4,.int .i64 col,.str text,.sl (intRows .i64 cols) false]] none])],[2,3]⟩) (natRows O).length)
     O.length _ ⟨0,true,Nat.zero_le _,by rw [hk];rfl,rfl,rfl⟩ gX ?_
    rintro n st ⟨i,b,hi,hbb,rfl,rfl⟩;simp only;(refine g ?_;intros);refine boolRes_split (fun hb=>?_) (fun hb=>?_)<;>conv=>whnf
    ·have hil:i<O.length:=by omega
     have hkg:=natRows_get hil;have hOi:=hO2 _ (List.getElem_mem hil);rw [List.drop_eq_getElem_cons hil,List.all_cons] at hbb;generalize O[i]=y at *;cases b with
     | false =>
      (refine g ?_;intros);exact gZ ⟨i+1,false,by omega,by rw [Bool.false_and] at hbb ⊢;exact hbb,rfl,rfl⟩
     | true =>
      have spE:=equal38_spec ht (x:=y) (y:=r) (by omega) hrl;(refine g ?_;intros);exact gZ ⟨i+1,!eqRow t y r,by omega,by rw [Bool.true_and] at hbb;exact hbb,rfl,rfl⟩
    ·have hie:i=O.length:=by omega
     rw [hie,List.drop_length,List.all_nil,Bool.and_true] at hbb;(refine g ?_;intros);exact ⟨_,⟨_,_,hbb,fun _=>hp.symm,rfl⟩,gY⟩
   ·have hk:keepM t ⟨5,col,text,cols⟩ O r=true:=rfl;have hp:posM t ⟨5,col,text,cols⟩ O r=plcC (sortC t ⟨5,col,text,cols⟩) O r O.length:=rfl;(refine g ?_;intros);refine W.loopG (fun n st=>∃ (p:Nat),p≤O.length∧plcC (sortC t ⟨5,col,text,cols⟩) O r O.length=plcC (sortC t ⟨5,col,text,cols⟩) O r p∧n=p∧st=(fun b=>⟨[(2,.bp 2 0),(3,.bp 3 0),(5,.sl (natRows O) false),(14,.int .i64 (rowsN t:Nat)),(15,.int .i64 (r:Nat)),(6,.int .i64 (r:Nat)),(7,.int .i64 (p:Nat)),(8,.bool b),(12,.sl (cellRows c.cells) false)],[(2,[.rows 3 [t.row] none]),(3,[.rows 4 [[.int .i64 5,.int .i64 col,.str text,.sl (intRows .i64 cols) false]] none])],[2,3]⟩) true)
     O.length _ ⟨O.length,Nat.le_refl _,rfl,rfl,rfl⟩ (by rw [←hol];exact gX) ?_
    rintro p st ⟨_,hpl,hpe,rfl,rfl⟩;simp only;cases p with
    | zero =>
     (refine g ?_;intros);exact ⟨_,⟨0,_,hk.symm,fun _=>by rw [hp,hpe];rfl,rfl⟩,gY⟩
    | succ p =>
     have hpl2:p<O.length:=by omega
     have hkg:=natRows_get hpl2;have hOi:=hO2 _ (List.getElem_mem hpl2);have hst:plcC (sortC t ⟨5,col,text,cols⟩) O r (p+1)=if sortC t ⟨5,col,text,cols⟩ r O[p]<0 then plcC (sortC t ⟨5,col,text,cols⟩) O r p else p+1:=by
      rw [plcC,List.getElem?_eq_getElem hpl2]
     generalize O[p]=y at *;obtain ⟨c',hd1,hd2⟩:=hcell y (by omega);rw [hc1] at hd1;have hcc:c'.row=c.row:=(Option.some.inj hd1).symm;have hd3:(cellRows c.cells)[y]?=some (opCell t ⟨5,col,text,cols⟩ y).row:=by
      have:cellRows c'.cells=cellRows c.cells:=by
       have:=congrArg (fun r=>r[1]?) hcc;simpa [Column.row] using this
      rw [←this];exact hd2
     have spK:=cmpV_spec (opCell t ⟨5,col,text,cols⟩ y) (opCell t ⟨5,col,text,cols⟩ r);have hsc:sortC t ⟨5,col,text,cols⟩ r y=-cmpV (opCell t ⟨5,col,text,cols⟩ y) (opCell t ⟨5,col,text,cols⟩ r):=rfl;(refine g ?_;intros);refine rowAt_of (r:=[.int .i64 (y:Nat)]) (by rw [show (((p+1:Nat):Int)-1).toNat=p by omega];exact hkg) ?_;(conv=>whnf);(refine g ?_;intros);by_cases hs:sortC t ⟨5,col,text,cols⟩ r y<0
     ·rw [if_pos hs] at hst;(refine g ?_;intros);refine ⟨p,_,by omega,⟨p,by omega,by rw [hpe,hst],rfl,rfl⟩,?_⟩;rw [show ((p:Nat):Int)=((p+1:Nat):Int)-1 by omega];exact gX
     ·rw [if_neg hs] at hst;(refine g ?_;intros);exact ⟨_,⟨p+1,_,hk.symm,fun _=>by rw [hp,hpe,hst],rfl⟩,gY⟩
  rintro z ⟨p,b,hbk,hbp,rfl⟩;unfold stepR at hsu;rw [←hbk] at hsu;cases b with
  | false =>
   rw [if_neg (by decide)] at hsu;(refine g ?_;intros);exact gZ ⟨r+1,O,by omega,hsu.symm,rfl,rfl⟩
  | true =>
   rw [if_pos rfl] at hsu;have hp:=hbp rfl;rw [←hp] at hsu hple;have hs1:List.drop (Int.toNat 0) (List.take ((p:Nat):Int).toNat (natRows O))=natRows (O.take p):=by
    rw [Int.toNat_natCast];unfold natRows;rw [←List.map_take];rfl
   have hs2:List.drop ((p:Nat):Int).toNat (List.take (((natRows O).length:Nat):Int).toNat (natRows O))=natRows (O.drop p):=by
    rw [Int.toNat_natCast,Int.toNat_natCast,List.take_length];unfold natRows;rw [←List.map_drop]
   have hAl:(O.take p).length=p:=by rw [List.length_take];omega
   have hBl:(O.drop p).length=O.length-p:=by rw [List.length_drop]
   (refine g ?_;intros);refine And.intro (natRows_sz1 _) ?_;rw [hs1];generalize O.take p=A at *;generalize hB:O.drop p=B at *;have hA2:=natRows_len A;have hB2:=natRows_len B;(conv=>whnf);(refine g ?_;intros);refine ⟨natRows_sz1 _,fitsN (n:=(natRows A).length) (b:=8) (by omega) (by omega),?_⟩;refine Or.inl ?_;(conv=>whnf);(refine g ?_;intros);refine ⟨⟨rowsSz_cons rfl rowsSz_nil,rfl⟩,fitsN (n:=(natRows A).length+1) (b:=8) (by omega) (by omega),.inl ⟨rfl,rfl,?_⟩⟩;(conv=>whnf);(refine g ?_;intros);refine And.intro (natRows_sz1 _) ?_;rw [hs2];(conv=>whnf);(refine g ?_;intros);refine ⟨⟨natRows_sz1 _,by simp⟩,fitsN (n:=(natRows A).length+1+(natRows B).length) (b:=8) (by omega) (by omega),.inl ⟨rfl,rfl,?_⟩⟩;(conv=>whnf);(refine g ?_;intros);have hrn:((natRows A++[[V.int .i64 (r:Nat)]])++natRows B)=natRows (A++r::B):=by simp [natRows]
   refine ⟨_,_,?_,⟨r+1,A++r::B,by omega,hsu.symm,rfl,rfl⟩,[(2,2),(3,3)],[108],[],LeG.mk' rfl rfl rfl (by rw [←hrn];repeat' (first | exact trivial | exact ⟨_,.refl _,rfl⟩ | exact ⟨_,Lent.whole rfl rfl (by simp;omega) rfl (by first | exact .inl rfl | exact .inr rfl),rfl⟩ | apply And.intro)) (.ci 2 (.ci 3 .nil)) rfl rfl (by rw [hK];rfl)⟩;omega
 ·have hre:r=rowsN t:=by omega
  rw [hre] at hO;rw [←hO];exact gR
structure FewT (t:Table):Prop where
 val:validB t=true
 cols:t.cols.length≤3
def doM (t:Table) (o:OpR):Table:=if o.kind=3 then projT t o.cols else selT t (rowsM t o (rowsN t))
theorem validB_of {t:Table}(h1:0≤t.id∧t.id≤1073741824) (h2:fineB t.name=true) (h3:t.cols.length≤64) {n:Nat}(hn:n≤4096) (h:∀ c∈t.cols,fineB c.name=true∧c.cells.length=n∧c.cells.all cellB=true):validB t=true:=by
 have hr:rowsN t=n∨t.cols=[]:=by
  unfold rowsN;cases hc:t.cols with
  | nil=>exact .inr rfl
  | cons c cs=>exact .inl (h c (by rw [hc];exact List.mem_cons_self)).2.1
 have hr2:rowsN t≤4096:=by
  rcases hr with h | h
  ·omega
  ·unfold rowsN;rw [h];exact Nat.zero_le _
 unfold validB;have e1:headB t=true:=by
  unfold headB;rw [decide_eq_true h1,h2,decide_eq_true h3,decide_eq_true hr2];rfl
 have e2:t.cols.any (badCol t)=false:=by
  rw [List.any_eq_false];intro c hc;obtain ⟨g1,g2,g3⟩:=h c hc;have hrn:rowsN t=n:=by
   rcases hr with h | h
   ·exact h
   ·rw [h] at hc;cases hc
  unfold badCol;rw [hrn,g1,g3,decide_eq_false (fun h=>h g2)];decide
 rw [e1,e2];rfl
theorem validB_all {t:Table}(h:validB t=true):(0≤t.id∧t.id≤1073741824)∧fineB t.name=true∧t.cols.length≤64∧rowsN t≤4096∧∀ c∈t.cols,fineB c.name=true∧c.cells.length=rowsN t∧c.cells.all cellB=true:=by
 unfold validB headB at h;simp only [Bool.and_eq_true,decide_eq_true_eq,Bool.not_eq_true',List.any_eq_false] at h;obtain ⟨⟨⟨⟨g1,g2⟩,g3⟩,g4⟩,g5⟩:=h;refine ⟨g1,g2,g3,g4,fun c hc=>?_⟩;have:=g5 c hc;unfold badCol at this;simp only [Bool.or_eq_true,not_or,Bool.not_eq_true',Bool.not_eq_false,decide_eq_true_eq,Decidable.not_not] at this;exact ⟨this.1.1,this.1.2,this.2⟩
theorem doM_few {t:Table}{o:OpR}(ht:FewT t) (h:GoodOp t o):FewT (doM t o)∧(doM t o).id=t.id:=by
 obtain ⟨hv,hc⟩:=ht;obtain ⟨g1,g2,g3,g4,g5⟩:=validB_all hv;unfold doM;split
 ·refine ⟨⟨validB_of g1 g2 (by simp [projT];have:=h.cols.2.1;omega) g4 fun c hcm=>?_,by simp [projT];exact h.cols.2.1⟩,rfl⟩;obtain ⟨k,hk,rfl⟩:=List.mem_map.1 hcm;obtain ⟨k0,k1⟩:=h.cols.2.2 k hk;have hkl:k.toNat<t.cols.length:=by omega
  rw [show t.cols.getD k.toNat ⟨[],[]⟩=t.cols[k.toNat] by simp [List.getD_eq_getElem?_getD,hkl]];exact g5 _ (List.getElem_mem hkl)
 ·obtain ⟨r1,r2⟩:=rowsM_ok t o (rowsN t);refine ⟨⟨validB_of g1 g2 (by simp [selT];omega) (n:=(rowsM t o (rowsN t)).length) (by omega) fun c hcm=>?_,by simp [selT];exact hc⟩,rfl⟩;obtain ⟨d,hd,rfl⟩:=List.mem_map.1 hcm;obtain ⟨e1,e2,e3⟩:=g5 d hd;refine ⟨e1,by simp [selC],?_⟩;rw [List.all_eq_true];intro x hx;obtain ⟨k,hk,rfl⟩:=List.mem_map.1 hx;have hkl:k<d.cells.length:=by rw [e2];exact r2 k hk
  rw [show d.cells.getD k ⟨false,[]⟩=d.cells[k] by simp [List.getD_eq_getElem?_getD,hkl]];exact List.all_eq_true.1 e3 _ (List.getElem_mem hkl)
set_option maxHeartbeats 4000000 in
theorem do38_spec {t:Table}{o:OpR}(ht:FewT t) (h:GoodOp t o) (hc:canB t o=true):Spec Tryz.prog 157 [.agg t.row,.agg o.row] [] (.agg (doM t o).row) []:=by
 obtain ⟨hv,hcl⟩:=ht;unfold doM;by_cases h3:o.kind=3
 ·rw [if_pos h3];have sp:=proj38_spec hv h.cols.2.2 (by have:=h.cols.2.1;omega);refine gEn env Tryz.func157 fun Γ hN hK hML=>?_;refine gGo ?_;intros;(refine gPC (sp) ?_;conv=>whnf);exact gR
 ·rw [if_neg h3];obtain ⟨r1,r2⟩:=rowsM_ok t o (rowsN t);have hr:=validB_rows hv;have sp2:=sel38_spec hv r2 (by omega);have sp1:=rows38_spec hr.2 hr.1 h h3;refine gEn env Tryz.func157 fun Γ hN hK hML=>?_;refine gGo ?_;intros;(refine gPC (sp1) ?_;conv=>whnf);refine gGo ?_;intros;(refine gPC (sp2) ?_;conv=>whnf);exact gR
def runM (t:Table) (o:OpR):Table×Int:=if canB t o=true then (doM t o,0) else (⟨0,[],[]⟩,24)
theorem few_bnd {t:Table}(h:FewT t):t.cols.length≤1000∧∀ c∈t.cols,c.cells.length≤100000:=by
 have hr:=validB_rows h.val;have:=h.cols;exact ⟨by omega,fun c hc=>by rw [hr.2 c hc];omega⟩
set_option maxHeartbeats 4000000 in
theorem run38_spec {t:Table}{o:OpR}(ht:FewT t) (h:GoodOp t o):Spec Tryz.prog 113 [.agg t.row,.sl [o.row] false] [] (.tup [.agg (runM t o).1.row,.int .i64 (runM t o).2]) []:=by
 have spV:=valid3_spec t;rw [ht.val] at spV;have spC:=can38_spec h;have hz:[o.row].length=1:=rfl;unfold runM;cases hc:canB t o with
 | true =>
  rw [hc] at spC;have spD:=do38_spec ht h hc;obtain ⟨hd1,_⟩:=doM_few ht h;obtain ⟨b1,b2⟩:=few_bnd hd1;have spY:=copy38_spec (doM t o) b1 b2;rw [if_pos rfl];generalize doM t o=u at *;refine gEn env Tryz.func113 fun Γ hN hK hML=>?_;(refine g ?_;intros);refine W.loopG (fun n st=>∃ (k:Nat) (x:Table),k≤1∧(k=0→x=t)∧(k=1→x=u)∧n=1-k∧st=⟨[(2,.bp 2 0),(4,.bp 4 0),(18,.sl [o.row] false),(19,.int .i64 1),(20,.int .i64 (k:Nat))],[(2,[.rows 3 [x.row] none]),(4,[.rows 3 [[.int .i64 0,.str [],.nils]] none])],[2,4]⟩)
   1 _ ⟨0,t,by omega,fun _=>rfl,fun h=>by omega,rfl,rfl⟩ gX ?_
  rintro n st ⟨k,x,hk,h0,h1,rfl,rfl⟩;(refine g ?_;intros);refine boolRes_split (fun hb=>?_) (fun hb=>?_)<;>conv=>whnf
  ·have hk0:k=0:=by omega
   subst hk0;obtain rfl:=h0 rfl;(refine g ?_;intros);exact gZ ⟨1,u,by omega,fun h=>by omega,fun _=>rfl,rfl,rfl⟩
  ·have hk1:k=1:=by omega
   subst hk1;obtain rfl:=h1 rfl;exact gR
 | false =>
  rw [hc] at spC;rw [if_neg (by decide)];refine gEn env Tryz.func113 fun Γ hN hK hML=>?_;(refine g ?_;intros);refine W.loopG (fun n st=>n=1∧st=⟨[(2,.bp 2 0),(4,.bp 4 0),(18,.sl [o.row] false),(19,.int .i64 1),(20,.int .i64 0)],[(2,[.rows 3 [t.row] none]),(4,[.rows 3 [[.int .i64 0,.str [],.nils]] none])],[2,4]⟩)
   1 _ ⟨rfl,rfl⟩ gX ?_
  rintro n st ⟨rfl,rfl⟩;exact gR
theorem nextV_pos (l:List Int) (p:Nat) (n:Nat):0≤nextV l p n∧(0<n→nextV l p n<n)∧(n=0→nextV l p n=0):=by
 unfold nextV;split
 ·unfold modK;split
  ·exact ⟨Int.le_refl 0,fun h=>by omega,fun _=>rfl⟩
  ·exact ⟨Int.emod_nonneg _ (by omega),fun _=>Int.emod_lt_of_pos _ (by omega),fun h=>by omega⟩
 ·exact ⟨Int.le_refl 0,fun h=>by omega,fun _=>rfl⟩
def opWords:List Str:=[[97],[98],[49],[50],[107,48],[]]
def colsK (l:List Int) (n k p:Nat):List Int×Nat:=seqF (fun _ q=>(nextV l q n,nextP l q)) k 0 p
set_option maxHeartbeats 16000000 in
theorem op38_spec (l:List Int) (p:Nat) (hp:p≤l.length) {t:Table}(ht:FewT t):∃ (o:OpR) (q:Nat),GoodOp t o∧q≤l.length∧Spec Tryz.prog 114 [.bp 0 0,.agg t.row] [(0,diceB l p)] (.agg o.row) [(0,diceB l q)]:=by
 have hp1:=nextP_le hp;have hp2:=nextP_le hp1;have hp3:=nextP_le hp2;have hp4:=nextP_le hp3;have hp5:=nextP_le hp4;have sp1:=next_spec l p 5 (by omega) hp;have hcl:=colRows_len t.cols;have h3:=ht.cols;obtain ⟨g1,g2,g3,g4,g5⟩:=validB_all ht.val;have hr:=nextV_range l p (n:=5) (by omega);obtain ⟨K,hK0⟩:=Int.eq_ofNat_of_zero_le hr.1;rw [hK0] at sp1 hr;have spC:=next_spec l (nextP l p) (t.cols.length:Nat) (by omega) hp1;obtain ⟨v1,v2,v3⟩:=nextV_pos l (nextP l p) t.cols.length;rw [←hcl] at spC;have spC:Spec Tryz.prog 13 [.bp 0 0,.int .i64 ((colRows t.cols).length:Nat)] [(0,diceB l (nextP l p))] (.int .i64 (nextV l (nextP l p) t.cols.length)) [(0,diceB l (nextP l (nextP l p)))]:=by rw [hcl] at spC ⊢;exact spC
 generalize nextV l (nextP l p) t.cols.length=col at *;rcases (show K=0∨K=1∨K=2∨K=3∨K=4 by omega) with rfl | rfl | rfl | rfl | rfl
 ·obtain ⟨s,hs,sp2⟩:=word_spec l (nextP l (nextP l p)) opWords (by decide) (by decide) hp2;have hsl:s.length≤1024:=(show ∀ s∈opWords,s.length≤1024 by decide) s hs;have sp3:=next_spec l (nextP l (nextP l (nextP l p))) 3 (by omega) hp3;have hgood:∀ u:Str,u.length≤1024→GoodOp t ⟨1,col,u,[]⟩:=fun u hu=>⟨⟨(by decide:(1:Int)≤1),(by decide:(1:Int)≤5)⟩,⟨v1,fun h=>v2 h,fun h=>by rcases h with h | h<;>cases h⟩,⟨hu,fun h=>absurd rfl h⟩,fun _=>rfl,by simp,fun k hk=>by cases hk⟩
  by_cases hn:0<t.cols.length
  ·obtain ⟨col,rfl⟩:=Int.eq_ofNat_of_zero_le v1;have hcolt:col<t.cols.length:=by have:=v2 hn;omega
   have hcg:=colRows_get hcolt;obtain ⟨e1,e2,e3⟩:=g5 _ (List.getElem_mem hcolt);generalize t.cols[col]=c at *;have hll:=cellRows_len c.cells;by_cases hz:0<c.cells.length
   ·generalize nextV l (nextP l (nextP l (nextP l p))) 3=x at *;by_cases hx:0<x
    ·have sp4:=next_spec l (nextP l (nextP l (nextP l (nextP l p)))) (c.cells.length:Nat) (by omega) hp4;obtain ⟨w1,w2,_⟩:=nextV_pos l (nextP l (nextP l (nextP l (nextP l p)))) c.cells.length;have w2:=w2 hz;generalize nextV l (nextP l (nextP l (nextP l (nextP l p)))) c.cells.length=y at *;obtain ⟨y,rfl⟩:=Int.eq_ofNat_of_zero_le w1;have hyl:y<c.cells.length:=by omega
     have hyg:=cellRows_get hyl;have hyb:=List.all_eq_true.1 e3 _ (List.getElem_mem hyl);generalize c.cells[y]=ce at *;have hcel:ce.text.length≤1024:=by
      unfold cellB fineB at hyb;simp only [Bool.and_eq_true,decide_eq_true_eq] at hyb;exact hyb.1.1
     rw [←hll] at sp4;refine ⟨⟨1,(col:Nat),ce.text,[]⟩,_,hgood _ hcel,hp5,?_⟩;refine gEn env Tryz.func114 fun Γ hN hK hML=>?_;(refine g ?_;intros);(refine ⟨_,_,_,callG [(0,0)] [] [] rfl rfl rfl (by kernel_rfl) (sp1) (by repeat' (first | exact trivial | exact Lent.refl _ | exact Lent.norm _ | exact Lent.whole rfl rfl (by first | rfl | exact List.length_append.symm | exact hlenR | simp) rfl (by first | exact .inl rfl | exact .inr rfl) | apply And.intro)) rfl ⟨rfl,rfl,rfl,rfl,rfl,by repeat' (first | exact trivial | rfl | apply And.intro),rfl,rfl⟩,?_⟩;conv=>whnf);(refine g ?_;intros);(refine ⟨_,_,_,callG [(0,0)] [] [] rfl rfl rfl (by kernel_rfl) (spC) (by repeat' (first | exact trivial | exact Lent.refl _ | exact Lent.norm _ | exact Lent.whole rfl rfl (by first | rfl | exact List.length_append.symm | exact hlenR | simp) rfl (by first | exact .inl rfl | exact .inr rfl) | apply And.intro)) rfl ⟨rfl,rfl,rfl,rfl,rfl,by repeat' (first | exact trivial | rfl | apply And.intro),rfl,rfl⟩,?_⟩;conv=>whnf);(refine g ?_;intros);(refine ⟨_,_,_,callG [(0,0)] [] [] rfl rfl rfl (by kernel_rfl) (sp2) (by repeat' (first | exact trivial | exact Lent.refl _ | exact Lent.norm _ | exact Lent.whole rfl rfl (by first | rfl | exact List.length_append.symm | exact hlenR | simp) rfl (by first | exact .inl rfl | exact .inr rfl) | apply And.intro)) rfl ⟨rfl,rfl,rfl,rfl,rfl,by repeat' (first | exact trivial | rfl | apply And.intro),rfl,rfl⟩,?_⟩;conv=>whnf);(refine g ?_;intros);(refine ⟨_,_,_,callG [(0,0)] [] [] rfl rfl rfl (by kernel_rfl) (sp3) (by repeat' (first | exact trivial | exact Lent.refl _ | exact Lent.norm _ | exact Lent.whole rfl rfl (by first | rfl | exact List.length_append.symm | exact hlenR | simp) rfl (by first | exact .inl rfl | exact .inr rfl) | apply And.intro)) rfl ⟨rfl,rfl,rfl,rfl,rfl,by repeat' (first | exact trivial | rfl | apply And.intro),rfl,rfl⟩,?_⟩;conv=>whnf);(refine g ?_;intros);(refine ⟨_,_,_,callG [(0,0)] [] [] rfl rfl rfl (by kernel_rfl) (sp4) (by repeat' (first | exact trivial | exact Lent.refl _ | exact Lent.norm _ | exact Lent.whole rfl rfl (by first | rfl | exact List.length_append.symm | exact hlenR | simp) rfl (by first | exact .inl rfl | exact .inr rfl) | apply And.intro)) rfl ⟨rfl,rfl,rfl,rfl,rfl,by repeat' (first | exact trivial | rfl | apply And.intro),rfl,rfl⟩,?_⟩;conv=>whnf);(refine g ?_;intros);(refine gM ?_;conv=>whnf);exact retH rfl (.norm _) rfl rfl rfl ⟨rfl,rfl,trivial⟩
    ·refine ⟨⟨1,(col:Nat),s,[]⟩,_,hgood _ hsl,hp4,?_⟩;refine gEn env Tryz.func114 fun Γ hN hK hML=>?_;(refine g ?_;intros);(refine ⟨_,_,_,callG [(0,0)] [] [] rfl rfl rfl (by kernel_rfl) (sp1) (by repeat' (first | exact trivial | exact Lent.refl _ | exact Lent.norm _ | exact Lent.whole rfl rfl (by first | rfl | exact List.length_append.symm | exact hlenR | simp) rfl (by first | exact .inl rfl | exact .inr rfl) | apply And.intro)) rfl ⟨rfl,rfl,rfl,rfl,rfl,by repeat' (first | exact trivial | rfl | apply And.intro),rfl,rfl⟩,?_⟩;conv=>whnf);(refine g ?_;intros);(refine ⟨_,_,_,callG [(0,0)] [] [] rfl rfl rfl (by kernel_rfl) (spC) (by repeat' (first | exact trivial | exact Lent.refl _ | exact Lent.norm _ | exact Lent.whole rfl rfl (by first | rfl | exact List.length_append.symm | exact hlenR | simp) rfl (by first | exact .inl rfl | exact .inr rfl) | apply And.intro)) rfl ⟨rfl,rfl,rfl,rfl,rfl,by repeat' (first | exact trivial | rfl | apply And.intro),rfl,rfl⟩,?_⟩;conv=>whnf);(refine g ?_;intros);(refine ⟨_,_,_,callG [(0,0)] [] [] rfl rfl rfl (by kernel_rfl) (sp2) (by repeat' (first | exact trivial | exact Lent.refl _ | exact Lent.norm _ | exact Lent.whole rfl rfl (by first | rfl | exact List.length_append.symm | exact hlenR | simp) rfl (by first | exact .inl rfl | exact .inr rfl) | apply And.intro)) rfl ⟨rfl,rfl,rfl,rfl,rfl,by repeat' (first | exact trivial | rfl | apply And.intro),rfl,rfl⟩,?_⟩;conv=>whnf);(refine g ?_;intros);(refine ⟨_,_,_,callG [(0,0)] [] [] rfl rfl rfl (by kernel_rfl) (sp3) (by repeat' (first | exact trivial | exact Lent.refl _ | exact Lent.norm _ | exact Lent.whole rfl rfl (by first | rfl | exact List.length_append.symm | exact hlenR | simp) rfl (by first | exact .inl rfl | exact .inr rfl) | apply And.intro)) rfl ⟨rfl,rfl,rfl,rfl,rfl,by repeat' (first | exact trivial | rfl | apply And.intro),rfl,rfl⟩,?_⟩;conv=>whnf);(refine g ?_;intros);(refine gM ?_;conv=>whnf);exact retH rfl (.norm _) rfl rfl rfl ⟨rfl,rfl,trivial⟩
   ·refine ⟨⟨1,(col:Nat),s,[]⟩,_,hgood _ hsl,hp3,?_⟩;refine gEn env Tryz.func114 fun Γ hN hK hML=>?_;(refine g ?_;intros);(refine ⟨_,_,_,callG [(0,0)] [] [] rfl rfl rfl (by kernel_rfl) (sp1) (by repeat' (first | exact trivial | exact Lent.refl _ | exact Lent.norm _ | exact Lent.whole rfl rfl (by first | rfl | exact List.length_append.symm | exact hlenR | simp) rfl (by first | exact .inl rfl | exact .inr rfl) | apply And.intro)) rfl ⟨rfl,rfl,rfl,rfl,rfl,by repeat' (first | exact trivial | rfl | apply And.intro),rfl,rfl⟩,?_⟩;conv=>whnf);(refine g ?_;intros);(refine ⟨_,_,_,callG [(0,0)] [] [] rfl rfl rfl (by kernel_rfl) (spC) (by repeat' (first | exact trivial | exact Lent.refl _ | exact Lent.norm _ | exact Lent.whole rfl rfl (by first | rfl | exact List.length_append.symm | exact hlenR | simp) rfl (by first | exact .inl rfl | exact .inr rfl) | apply And.intro)) rfl ⟨rfl,rfl,rfl,rfl,rfl,by repeat' (first | exact trivial | rfl | apply And.intro),rfl,rfl⟩,?_⟩;conv=>whnf);(refine g ?_;intros);(refine ⟨_,_,_,callG [(0,0)] [] [] rfl rfl rfl (by kernel_rfl) (sp2) (by repeat' (first | exact trivial | exact Lent.refl _ | exact Lent.norm _ | exact Lent.whole rfl rfl (by first | rfl | exact List.length_append.symm | exact hlenR | simp) rfl (by first | exact .inl rfl | exact .inr rfl) | apply And.intro)) rfl ⟨rfl,rfl,rfl,rfl,rfl,by repeat' (first | exact trivial | rfl | apply And.intro),rfl,rfl⟩,?_⟩;conv=>whnf);(refine g ?_;intros);(refine gM ?_;conv=>whnf);exact retH rfl (.norm _) rfl rfl rfl ⟨rfl,rfl,trivial⟩
  ·refine ⟨⟨1,col,s,[]⟩,_,hgood _ hsl,hp3,?_⟩;refine gEn env Tryz.func114 fun Γ hN hK hML=>?_;(refine g ?_;intros);(refine ⟨_,_,_,callG [(0,0)] [] [] rfl rfl rfl (by kernel_rfl) (sp1) (by repeat' (first | exact trivial | exact Lent.refl _ | exact Lent.norm _ | exact Lent.whole rfl rfl (by first | rfl | exact List.length_append.symm | exact hlenR | simp) rfl (by first | exact .inl rfl | exact .inr rfl) | apply And.intro)) rfl ⟨rfl,rfl,rfl,rfl,rfl,by repeat' (first | exact trivial | rfl | apply And.intro),rfl,rfl⟩,?_⟩;conv=>whnf);(refine g ?_;intros);(refine ⟨_,_,_,callG [(0,0)] [] [] rfl rfl rfl (by kernel_rfl) (spC) (by repeat' (first | exact trivial | exact Lent.refl _ | exact Lent.norm _ | exact Lent.whole rfl rfl (by first | rfl | exact List.length_append.symm | exact hlenR | simp) rfl (by first | exact .inl rfl | exact .inr rfl) | apply And.intro)) rfl ⟨rfl,rfl,rfl,rfl,rfl,by repeat' (first | exact trivial | rfl | apply And.intro),rfl,rfl⟩,?_⟩;conv=>whnf);(refine g ?_;intros);(refine ⟨_,_,_,callG [(0,0)] [] [] rfl rfl rfl (by kernel_rfl) (sp2) (by repeat' (first | exact trivial | exact Lent.refl _ | exact Lent.norm _ | exact Lent.whole rfl rfl (by first | rfl | exact List.length_append.symm | exact hlenR | simp) rfl (by first | exact .inl rfl | exact .inr rfl) | apply And.intro)) rfl ⟨rfl,rfl,rfl,rfl,rfl,by repeat' (first | exact trivial | rfl | apply And.intro),rfl,rfl⟩,?_⟩;conv=>whnf);(refine g ?_;intros);(refine gM ?_;conv=>whnf);exact retH rfl (.norm _) rfl rfl rfl ⟨rfl,rfl,trivial⟩
 ·refine ⟨⟨2,col,[],[]⟩,_,⟨⟨(by decide:(1:Int)≤2),(by decide:(2:Int)≤5)⟩,⟨v1,fun h=>v2 h,fun h=>by rcases h with h | h<;>cases h⟩,⟨by simp,fun _=>rfl⟩,fun _=>rfl,by simp,fun k hk=>by cases hk⟩,hp2,?_⟩;refine gEn env Tryz.func114 fun Γ hN hK hML=>?_;(refine g ?_;intros);(refine ⟨_,_,_,callG [(0,0)] [] [] rfl rfl rfl (by kernel_rfl) (sp1) (by repeat' (first | exact trivial | exact Lent.refl _ | exact Lent.norm _ | exact Lent.whole rfl rfl (by first | rfl | exact List.length_append.symm | exact hlenR | simp) rfl (by first | exact .inl rfl | exact .inr rfl) | apply And.intro)) rfl ⟨rfl,rfl,rfl,rfl,rfl,by repeat' (first | exact trivial | rfl | apply And.intro),rfl,rfl⟩,?_⟩;conv=>whnf);(refine g ?_;intros);(refine ⟨_,_,_,callG [(0,0)] [] [] rfl rfl rfl (by kernel_rfl) (spC) (by repeat' (first | exact trivial | exact Lent.refl _ | exact Lent.norm _ | exact Lent.whole rfl rfl (by first | rfl | exact List.length_append.symm | exact hlenR | simp) rfl (by first | exact .inl rfl | exact .inr rfl) | apply And.intro)) rfl ⟨rfl,rfl,rfl,rfl,rfl,by repeat' (first | exact trivial | rfl | apply And.intro),rfl,rfl⟩,?_⟩;conv=>whnf);(refine g ?_;intros);(refine gM ?_;conv=>whnf);exact retH rfl (.norm _) rfl rfl rfl ⟨rfl,rfl,trivial⟩
 ·have sp2:=next_spec l (nextP l p) 3 (by omega) hp1;have hr2:=nextV_range l (nextP l p) (n:=3) (by omega);obtain ⟨N,hN0⟩:=Int.eq_ofNat_of_zero_le hr2.1;rw [hN0] at sp2 hr2;by_cases hn:0<t.cols.length
  ·obtain ⟨q1,q2⟩:=seqF_ok (L:=l.length) (step:=fun _ q=>(nextV l q t.cols.length,nextP l q)) (Q:=fun _ k=>0≤k∧k<t.cols.length) (fun i q hq=>⟨⟨(nextV_pos l q t.cols.length).1,(nextV_pos l q t.cols.length).2.1 hn⟩,nextP_le hq⟩) (1+N) 0 (nextP l (nextP l p)) hp2;have q3:=seqF_len (fun _ q=>(nextV l q t.cols.length,nextP l q)) (1+N) 0 (nextP l (nextP l p));have hres:colsK l t.cols.length (1+N) (nextP l (nextP l p))=seqF (fun _ q=>(nextV l q t.cols.length,nextP l q)) (1+N) 0 (nextP l (nextP l p)):=rfl;rw [←hres] at q1 q2 q3;generalize colsK l t.cols.length (1+N) (nextP l (nextP l p))=res at *;refine ⟨⟨3,0,[],res.1⟩,res.2,⟨⟨(by decide:(1:Int)≤3),(by decide:(3:Int)≤5)⟩,⟨(by decide:(0:Int)≤0),fun h=>by show (0:Int)<_;omega,fun _=>rfl⟩,⟨by simp,fun _=>rfl⟩,fun h=>absurd rfl h,by show res.1.length≤3;omega,fun k hk=>by
    obtain ⟨j,hj,rfl⟩:=List.getElem_of_mem hk
    exact q1 j hj⟩,q2,?_⟩
   refine gEn env Tryz.func114 fun Γ hN hK hML=>?_;(refine g ?_;intros);(refine ⟨_,_,_,callG [(0,0)] [] [] rfl rfl rfl (by kernel_rfl) (sp1) (by repeat' (first | exact trivial | exact Lent.refl _ | exact Lent.norm _ | exact Lent.whole rfl rfl (by first | rfl | exact List.length_append.symm | exact hlenR | simp) rfl (by first | exact .inl rfl | exact .inr rfl) | apply And.intro)) rfl ⟨rfl,rfl,rfl,rfl,rfl,by repeat' (first | exact trivial | rfl | apply And.intro),rfl,rfl⟩,?_⟩;conv=>whnf);(refine g ?_;intros);(refine ⟨_,_,_,callG [(0,0)] [] [] rfl rfl rfl (by kernel_rfl) (sp2) (by repeat' (first | exact trivial | exact Lent.refl _ | exact Lent.norm _ | exact Lent.whole rfl rfl (by first | rfl | exact List.length_append.symm | exact hlenR | simp) rfl (by first | exact .inl rfl | exact .inr rfl) | apply And.intro)) rfl ⟨rfl,rfl,rfl,rfl,rfl,by repeat' (first | exact trivial | rfl | apply And.intro),rfl,rfl⟩,?_⟩;conv=>whnf);(refine g ?_;intros);refine W.ownCell 5 0 3 191 1 rfl rfl rfl rfl rfl ?_;refine W.loopG (fun m st=>∃ (j q:Nat) (C:List Int),j≤1+N∧q≤l.length∧C.length=j∧res=(C++(seqF (fun _ q=>(nextV l q t.cols.length,nextP l q)) (1+N-j) j q).1,(seqF (fun _ q=>(nextV l q t.cols.length,nextP l q)) (1+N-j) j q).2)∧m=1+N-j∧st=⟨[(0,.bp 0 0),(4,.bp 4 0),(5,.bp 5 0),(6,.int .i64 (colRows t.cols).length),(7,.int .i64 (1+(N:Int)-(j:Nat)))],[(0,[diceB l q]),(4,[.rows 4 [[.int .i64 0,.int .i64 0,.str [],.nils]] none]),(5,[.rows 4 [[.int .i64 3,.int .i64 0,.str [],.osl 191 0 0 (intRows .i64 C).length (intRows .i64 C).length]] none]),(191,[.rows 1 (intRows .i64 C) (some [])])],[0,4,5,191]⟩)
    (1+N) _ ⟨0,_,[],by omega,hp2,rfl,hres,by omega,rfl⟩ (by rw [show 1+(N:Int)-((0:Nat):Int)=1+(N:Int) by omega];exact gX) ?_
   rintro m st ⟨j,q,C,hj,hq,hC,he,rfl,rfl⟩;have hil:=intRows_len .i64 C;by_cases hjl:j<1+N
   ·have spN:=next_spec l q (t.cols.length:Nat) (by omega) hq;rw [←hcl] at spN;rw [show 1+N-j=(1+N-(j+1))+1 by omega] at he;simp only [seqF] at he;rw [←hcl] at he;generalize hx:nextV l q (colRows t.cols).length=x at *;(refine g ?_;intros);(refine ⟨_,_,_,callG [(0,0)] [] [] rfl rfl rfl (by kernel_rfl) (spN) (by repeat' (first | exact trivial | exact Lent.refl _ | exact Lent.norm _ | exact Lent.whole rfl rfl (by first | rfl | exact List.length_append.symm | exact hlenR | simp) rfl (by first | exact .inl rfl | exact .inr rfl) | apply And.intro)) rfl ⟨rfl,rfl,rfl,rfl,rfl,by repeat' (first | exact trivial | rfl | apply And.intro),rfl,rfl⟩,?_⟩;conv=>whnf);(refine g ?_;intros);refine ⟨⟨rowsSz_cons rfl rowsSz_nil,rfl⟩,fitsN (n:=(intRows .i64 C).length+1) (b:=8) (by omega) (by omega),.inl ⟨rfl,rfl,?_⟩⟩;(conv=>whnf);(refine g ?_;intros);refine ⟨_,_,?_,⟨j+1,nextP l q,C++[x],by omega,nextP_le hq,by simp [hC],by rw [hcl] at he;rw [he,List.append_assoc];rfl,rfl,rfl⟩,?_⟩
    ·omega
    ·rw [show intRows .i64 (C++[x])=intRows .i64 C++[[V.int .i64 x]] by simp [intRows],List.length_append,show 1+(N:Int)-((j+1:Nat):Int)=1+(N:Int)-(j:Nat)-1 by omega];exact gX
   ·have hje:j=1+N:=by omega
    rw [hje,Nat.sub_self] at he;simp only [seqF,List.append_nil] at he;rw [he];(refine g ?_;intros);refine W.leG (mp:=[(0,0),(4,4)]) (bo:=[191]) (st':=⟨[(4,.bp 4 0)],[(0,[diceB l q]),(4,[.rows 4 [OpR.row ⟨3,0,[],C⟩] none])],[0,4]⟩)
     (LeG.mq (.ci 0 (.cons 4 (b1:=.rows 4 [[.int .i64 3,.int .i64 0,.str [],.sl (intRows .i64 C) false]] none) rfl rfl (.rows _ _ _ (by repeat' (first | exact trivial | exact ⟨Lent.refl _,rfl⟩ | exact ⟨Lent.norm _,rfl⟩ | exact ⟨Lent.whole rfl rfl (by first | rfl | exact List.length_append.symm | exact hlenR | simp) rfl (by first | exact .inl rfl | exact .inr rfl),rfl⟩ | apply And.intro))) rfl .nil))) ?_
    (refine gM ?_;conv=>whnf);exact retH rfl (.refl _) rfl rfl rfl ⟨rfl,rfl,trivial⟩
  ·have hz:t.cols.length=0:=by omega
   refine ⟨⟨3,0,[],[]⟩,_,⟨⟨(by decide:(1:Int)≤3),(by decide:(3:Int)≤5)⟩,⟨(by decide:(0:Int)≤0),fun h=>absurd h hn,fun _=>rfl⟩,⟨by simp,fun _=>rfl⟩,fun _=>rfl,by simp,fun k hk=>by cases hk⟩,hp2,?_⟩;refine gEn env Tryz.func114 fun Γ hN hK hML=>?_;(refine g ?_;intros);(refine ⟨_,_,_,callG [(0,0)] [] [] rfl rfl rfl (by kernel_rfl) (sp1) (by repeat' (first | exact trivial | exact Lent.refl _ | exact Lent.norm _ | exact Lent.whole rfl rfl (by first | rfl | exact List.length_append.symm | exact hlenR | simp) rfl (by first | exact .inl rfl | exact .inr rfl) | apply And.intro)) rfl ⟨rfl,rfl,rfl,rfl,rfl,by repeat' (first | exact trivial | rfl | apply And.intro),rfl,rfl⟩,?_⟩;conv=>whnf);(refine g ?_;intros);(refine ⟨_,_,_,callG [(0,0)] [] [] rfl rfl rfl (by kernel_rfl) (sp2) (by repeat' (first | exact trivial | exact Lent.refl _ | exact Lent.norm _ | exact Lent.whole rfl rfl (by first | rfl | exact List.length_append.symm | exact hlenR | simp) rfl (by first | exact .inl rfl | exact .inr rfl) | apply And.intro)) rfl ⟨rfl,rfl,rfl,rfl,rfl,by repeat' (first | exact trivial | rfl | apply And.intro),rfl,rfl⟩,?_⟩;conv=>whnf);(refine g ?_;intros);refine W.loopG (fun m st=>m=0∧st=⟨[(0,.bp 0 0),(4,.bp 4 0),(5,.bp 5 0),(6,.int .i64 (colRows t.cols).length),(7,.int .i64 (1+(N:Int)))],[(0,[diceB l (nextP l (nextP l p))]),(4,[.rows 4 [[.int .i64 0,.int .i64 0,.str [],.nils]] none]),(5,[.rows 4 [[.int .i64 3,.int .i64 0,.str [],.nils]] none])],[0,4,5]⟩)
    0 _ ⟨rfl,rfl⟩ gX ?_
   rintro m st ⟨rfl,rfl⟩;(refine g ?_;intros);(refine gM ?_;conv=>whnf);exact retH rfl (.norm _) rfl rfl rfl ⟨rfl,rfl,trivial⟩
 ·refine ⟨⟨4,0,[],[]⟩,_,⟨⟨(by decide:(1:Int)≤4),(by decide:(4:Int)≤5)⟩,⟨(by decide:(0:Int)≤0),fun h=>by show (0:Int)<_;omega,fun _=>rfl⟩,⟨by simp,fun _=>rfl⟩,fun _=>rfl,by simp,fun k hk=>by cases hk⟩,hp1,?_⟩;refine gEn env Tryz.func114 fun Γ hN hK hML=>?_;(refine g ?_;intros);(refine ⟨_,_,_,callG [(0,0)] [] [] rfl rfl rfl (by kernel_rfl) (sp1) (by repeat' (first | exact trivial | exact Lent.refl _ | exact Lent.norm _ | exact Lent.whole rfl rfl (by first | rfl | exact List.length_append.symm | exact hlenR | simp) rfl (by first | exact .inl rfl | exact .inr rfl) | apply And.intro)) rfl ⟨rfl,rfl,rfl,rfl,rfl,by repeat' (first | exact trivial | rfl | apply And.intro),rfl,rfl⟩,?_⟩;conv=>whnf);(refine g ?_;intros);(refine gM ?_;conv=>whnf);exact retH rfl (.norm _) rfl rfl rfl ⟨rfl,rfl,trivial⟩
 ·refine ⟨⟨5,col,[],[]⟩,_,⟨⟨(by decide:(1:Int)≤5),(by decide:(5:Int)≤5)⟩,⟨v1,fun h=>v2 h,fun h=>by rcases h with h | h<;>cases h⟩,⟨by simp,fun _=>rfl⟩,fun _=>rfl,by simp,fun k hk=>by cases hk⟩,hp2,?_⟩;refine gEn env Tryz.func114 fun Γ hN hK hML=>?_;(refine g ?_;intros);(refine ⟨_,_,_,callG [(0,0)] [] [] rfl rfl rfl (by kernel_rfl) (sp1) (by repeat' (first | exact trivial | exact Lent.refl _ | exact Lent.norm _ | exact Lent.whole rfl rfl (by first | rfl | exact List.length_append.symm | exact hlenR | simp) rfl (by first | exact .inl rfl | exact .inr rfl) | apply And.intro)) rfl ⟨rfl,rfl,rfl,rfl,rfl,by repeat' (first | exact trivial | rfl | apply And.intro),rfl,rfl⟩,?_⟩;conv=>whnf);(refine g ?_;intros);(refine ⟨_,_,_,callG [(0,0)] [] [] rfl rfl rfl (by kernel_rfl) (spC) (by repeat' (first | exact trivial | exact Lent.refl _ | exact Lent.norm _ | exact Lent.whole rfl rfl (by first | rfl | exact List.length_append.symm | exact hlenR | simp) rfl (by first | exact .inl rfl | exact .inr rfl) | apply And.intro)) rfl ⟨rfl,rfl,rfl,rfl,rfl,by repeat' (first | exact trivial | rfl | apply And.intro),rfl,rfl⟩,?_⟩;conv=>whnf);(refine g ?_;intros);(refine gM ?_;conv=>whnf);exact retH rfl (.norm _) rfl rfl rfl ⟨rfl,rfl,trivial⟩
noncomputable def opK (l:List Int) (p:Nat) (t:Table):OpR×Nat:=@dite _ (p≤l.length∧FewT t) (Classical.propDecidable _) (fun h=>(Classical.choose (op38_spec l p h.1 h.2),Classical.choose (Classical.choose_spec (op38_spec l p h.1 h.2)))) fun _=>(⟨4,0,[],[]⟩,p)
theorem opK_spec {l:List Int}{p:Nat}{t:Table}(hp:p≤l.length) (ht:FewT t):GoodOp t (opK l p t).1∧(opK l p t).2≤l.length∧Spec Tryz.prog 114 [.bp 0 0,.agg t.row] [(0,diceB l p)] (.agg (opK l p t).1.row) [(0,diceB l (opK l p t).2)]:=by
 have:=Classical.choose_spec (Classical.choose_spec (op38_spec l p hp ht));simp only [opK,dif_pos (show p≤l.length∧FewT t from ⟨hp,ht⟩)];exact this
noncomputable def derM (l:List Int):Nat→Nat→Table→Table×Nat
 | 0,q,t=>(t,q)
 | k+1,q,t=>derM l k (opK l q t).2 (if (runM t (opK l q t).1).2=0 then (runM t (opK l q t).1).1 else t)
theorem run_few {t:Table}{o:OpR}(ht:FewT t) (h:GoodOp t o):FewT (if (runM t o).2=0 then (runM t o).1 else t):=by
 unfold runM;split
 ·rw [if_pos rfl];exact (doM_few ht h).1
 ·rw [if_neg (by decide)];exact ht
theorem derM_ok {l:List Int}:∀ (k q:Nat) (t:Table),q≤l.length→FewT t→FewT (derM l k q t).1∧(derM l k q t).2≤l.length
 | 0,q,t,hq,ht=>⟨ht,hq⟩
 | k+1,q,t,hq,ht=>by
  obtain ⟨h1,h2,_⟩:=opK_spec hq ht;exact derM_ok k _ _ h2 (run_few ht h1)
noncomputable def derK (l:List Int) (p:Nat) (t:Table) (id:Int):Table×Nat:=(⟨id,(derM l (nextV l p 3).toNat (nextP l p) t).1.name,(derM l (nextV l p 3).toNat (nextP l p) t).1.cols⟩,(derM l (nextV l p 3).toNat (nextP l p) t).2)
set_option maxHeartbeats 16000000 in
theorem derived_spec (l:List Int) (p:Nat) (hp:p≤l.length) {t:Table}(ht:FewT t) (id:Int):Spec Tryz.prog 64 [.bp 0 0,.agg t.row,.int .i64 id] [(0,diceB l p)] (.agg (derK l p t id).1.row) [(0,diceB l (derK l p t id).2)]:=by
 have hp1:=nextP_le hp;have sp1:=next_spec l p 3 (by omega) hp;have hr:=nextV_range l p (n:=3) (by omega);obtain ⟨K,hK0⟩:=Int.eq_ofNat_of_zero_le hr.1;unfold derK;rw [hK0] at sp1 hr ⊢;rw [Int.toNat_natCast];generalize hres:derM l K (nextP l p) t=res;generalize nextP l p=p1 at *;refine gEn env Tryz.func64 fun Γ hN hK hML=>?_;(refine g ?_;intros);(refine ⟨_,_,_,callG [(0,0)] [] [] rfl rfl rfl (by kernel_rfl) (sp1) (by repeat' (first | exact trivial | exact Lent.refl _ | exact Lent.norm _ | exact Lent.whole rfl rfl (by first | rfl | exact List.length_append.symm | exact hlenR | simp) rfl (by first | exact .inl rfl | exact .inr rfl) | apply And.intro)) rfl ⟨rfl,rfl,rfl,rfl,rfl,by repeat' (first | exact trivial | rfl | apply And.intro),rfl,rfl⟩,?_⟩;conv=>whnf);(refine g ?_;intros);refine W.loopG (fun n st=>∃ (m q:Nat) (x:Table),m≤2∧q≤l.length∧FewT x∧derM l m q x=res∧n=m∧st=⟨[(0,.bp 0 0),(2,.int .i64 id),(4,.bp 4 0),(6,.bp 6 0),(7,.int .i64 (m:Nat))],[(0,[diceB l q]),(4,[.rows 3 [x.row] none]),(6,[.rows 3 [[.int .i64 0,.str [],.nils]] none])],[0,4,6]⟩)
  K _ ⟨K,p1,t,by omega,hp1,ht,hres,rfl,rfl⟩ gX ?_
 rintro n st ⟨m,q,x,hm,hq,hx,he,rfl,rfl⟩;cases n with
 | succ n =>
  obtain ⟨h1,h2,spO⟩:=opK_spec hq hx;have spR:=run38_spec hx h1;have hf:=run_few hx h1;rw [derM] at he;generalize opK l q x=oo at *;obtain ⟨o,q2⟩:=oo;simp only at h1 h2 spO spR hf he;generalize runM x o=rr at *;obtain ⟨y,e⟩:=rr;simp only at spR hf he;(refine g ?_;intros);(refine ⟨_,_,_,callG [(0,0)] [] [] rfl rfl rfl (by kernel_rfl) (spO) (by repeat' (first | exact trivial | exact Lent.refl _ | exact Lent.norm _ | exact Lent.whole rfl rfl (by first | rfl | exact List.length_append.symm | exact hlenR | simp) rfl (by first | exact .inl rfl | exact .inr rfl) | apply And.intro)) rfl ⟨rfl,rfl,rfl,rfl,rfl,by repeat' (first | exact trivial | rfl | apply And.intro),rfl,rfl⟩,?_⟩;conv=>whnf);(refine g ?_;intros);by_cases h0:e=0
  ·subst h0;rw [if_pos rfl] at hf he;(refine g ?_;intros);refine ⟨n,_,by omega,⟨n,q2,y,by omega,h2,hf,he,rfl,rfl⟩,?_⟩;rw [show ((n:Nat):Int)=((n+1:Nat):Int)-1 by omega];exact gX
  ·rw [if_neg h0] at hf he;(refine g ?_;intros);refine ⟨n,_,by omega,⟨n,q2,x,by omega,h2,hf,he,rfl,rfl⟩,?_⟩;rw [show ((n:Nat):Int)=((n+1:Nat):Int)-1 by omega];exact gX
 | zero =>
  rw [derM] at he;subst he;obtain ⟨b1,b2⟩:=few_bnd hx;have spY:=copy38_spec x b1 b2;(refine g ?_;intros);(refine gM ?_;conv=>whnf);exact retH rfl (.refl _) rfl rfl rfl ⟨rfl,rfl,trivial⟩
theorem fine_good {s:Str}(h:GoodText s):fineB s=true:=by
 unfold fineB;rw [validD_good h.2,decide_eq_true (by have:=h.1;omega)];rfl
theorem cell_good {c:Cell}(h:GoodCell c):cellB c=true:=by
 unfold cellB;rw [fine_good h.text];cases hn:c.null with
 | false=>rfl
 | true=>rw [h.null hn];rfl
theorem few_good {t:Table}(h:GoodTab t) (hid:0≤t.id∧t.id≤1073741824):FewT t:=by
 obtain ⟨n,hn,hc⟩:=h.cols;have h3:=h.few;exact ⟨validB_of hid (fine_good h.name) (by omega) (n:=n) (by omega) fun c hcm=>by
  have g:=hc c hcm
  exact ⟨fine_good g.name,g.len,List.all_eq_true.2 fun x hx=>cell_good (g.cells x hx)⟩,h3⟩
theorem few_id {t:Table}(h:FewT t) {id:Int}(hid:0≤id∧id≤1073741824):FewT ⟨id,t.name,t.cols⟩:=by
 obtain ⟨g1,g2,g3,g4,g5⟩:=validB_all h.val;exact ⟨validB_of (t:=⟨id,t.name,t.cols⟩) hid g2 g3 g4 g5,h.cols⟩
noncomputable def tabsK (l:List Int):Nat→List Table→Int→Nat→List Table×Nat
 | 0,out,_,q=>(out,q)
 | k+1,out,id,q =>
  if out.length=0 then tabsK l k (out++[(tblF l (id+(1+nextV l q 2)) (nextP l q)).1]) (id+(1+nextV l q 2)) (tblF l (id+(1+nextV l q 2)) (nextP l q)).2
  else if nextV l (tblF l (id+(1+nextV l q 2)) (nextP l q)).2 4=0 then
   tabsK l k (out++[(derK l (nextP l (nextP l (tblF l (id+(1+nextV l q 2)) (nextP l q)).2)) (out.getD (nextV l (nextP l (tblF l (id+(1+nextV l q 2)) (nextP l q)).2) out.length).toNat Table.zero) (id+(1+nextV l q 2))).1]) (id+(1+nextV l q 2)) (derK l (nextP l (nextP l (tblF l (id+(1+nextV l q 2)) (nextP l q)).2)) (out.getD (nextV l (nextP l (tblF l (id+(1+nextV l q 2)) (nextP l q)).2) out.length).toNat Table.zero) (id+(1+nextV l q 2))).2
  else tabsK l k (out++[(tblF l (id+(1+nextV l q 2)) (nextP l q)).1]) (id+(1+nextV l q 2)) (nextP l (tblF l (id+(1+nextV l q 2)) (nextP l q)).2)
structure TabsOK (out:List Table) (id:Int):Prop where
 few:∀ t∈out,FewT t
 asc:out.Pairwise fun a b=>a.id<b.id
 top:∀ t∈out,t.id≤id
theorem TabsOK.snoc {out:List Table}{id:Int}(h:TabsOK out id) {t:Table}(ht:FewT t) (hi:id<t.id):TabsOK (out++[t]) t.id:=by
 refine ⟨fun x hx=>?_,?_,fun x hx=>?_⟩
 ·rcases List.mem_append.1 hx with hx | hx
  ·exact h.few x hx
  ·rw [List.mem_singleton.1 hx];exact ht
 ·rw [List.pairwise_append];exact ⟨h.asc,List.pairwise_singleton _ _,fun a ha b hb=>by rw [List.mem_singleton.1 hb];have:=h.top a ha;omega⟩
 ·rcases List.mem_append.1 hx with hx | hx
  ·have:=h.top x hx;omega
  ·rw [List.mem_singleton.1 hx];exact Int.le_refl _
set_option maxHeartbeats 16000000 in
theorem tabs_spec (l:List Int) (p:Nat) (hp:p≤l.length):∃ (L:List Table) (q:Nat),(L.length≤4∧TabsOK L 100)∧Spec Tryz.prog 28 [.bp 0 0,.int .i64 4] [(0,diceB l p)] (.sl (tblRows L) false) [(0,diceB l q)]:=by
 have hp1:=nextP_le hp;have hp2:=nextP_le hp1;have sp1:=next_spec l p 2 (by omega) hp;have hr1:=nextV_range l p (n:=2) (by omega);have sp2:=next_spec l (nextP l p) 4 (by omega) hp1;have hr2:=nextV_range l (nextP l p) (n:=4) (by omega);obtain ⟨M,hM0⟩:=Int.eq_ofNat_of_zero_le hr2.1;rw [hM0] at sp2 hr2;generalize nextV l p 2=id0 at *;generalize nextP l (nextP l p)=p2 at *;have hok:∀ (k:Nat) (out:List Table) (id:Int) (q:Nat),q≤l.length→(0≤id∧id≤100-2*k)→TabsOK out id→(tabsK l k out id q).1.length≤out.length+k∧TabsOK (tabsK l k out id q).1 100:=by
  intro k
  induction k with
  | zero=>intro out id q hq hid h;exact ⟨Nat.le_refl _,h.few,h.asc,fun t ht=>by have:=h.top t ht;show t.id≤100;omega⟩
  | succ k ih =>
   intro out id q hq hid h;have hr:=nextV_range l q (n:=2) (by omega);obtain ⟨g1,g2,g3⟩:=tblF_ok (l:=l) (id:=id+(1+nextV l q 2)) (nextP_le hq);have hf:=few_good g1 (by rw [g2];omega);have h1:=h.snoc hf (by rw [g2];omega);rw [g2] at h1;rw [tabsK];split
   ·obtain ⟨i1,i2⟩:=ih _ _ _ g3 ⟨by omega,by omega⟩ h1;rw [List.length_append,List.length_singleton] at i1;exact ⟨by omega,i2⟩
   ·split
    ·have hpos:0<out.length:=by omega
     have hr2:=nextV_range l (nextP l (tblF l (id+(1+nextV l q 2)) (nextP l q)).2) (n:=(out.length:Nat)) (by omega);have hil:(nextV l (nextP l (tblF l (id+(1+nextV l q 2)) (nextP l q)).2) out.length).toNat<out.length:=by omega
     have hfx:=h.few _ (List.getElem_mem hil);rw [show out.getD (nextV l (nextP l (tblF l (id+(1+nextV l q 2)) (nextP l q)).2) out.length).toNat Table.zero=out[(nextV l (nextP l (tblF l (id+(1+nextV l q 2)) (nextP l q)).2) out.length).toNat] by simp [List.getD_eq_getElem?_getD,hil]];generalize out[(nextV l (nextP l (tblF l (id+(1+nextV l q 2)) (nextP l q)).2) out.length).toNat]=x at *;have hq3:=nextP_le (nextP_le g3);generalize nextP l (nextP l (tblF l (id+(1+nextV l q 2)) (nextP l q)).2)=q3 at *;obtain ⟨d1,d2⟩:=derM_ok (l:=l) (nextV l q3 3).toNat (nextP l q3) x (nextP_le hq3) hfx;have hfd:FewT (derK l q3 x (id+(1+nextV l q 2))).1:=few_id d1 ⟨by omega,by omega⟩;have h2:=h.snoc hfd (show id<id+(1+nextV l q 2) by omega);have d3:(derK l q3 x (id+(1+nextV l q 2))).2≤l.length:=d2;obtain ⟨i1,i2⟩:=ih _ (id+(1+nextV l q 2)) _ d3 ⟨by omega,by omega⟩ h2;rw [List.length_append,List.length_singleton] at i1;exact ⟨by omega,i2⟩
    ·obtain ⟨i1,i2⟩:=ih _ _ _ (nextP_le g3) ⟨by omega,by omega⟩ h1;rw [List.length_append,List.length_singleton] at i1;exact ⟨by omega,i2⟩
 have h0:TabsOK [] id0:=⟨fun t ht=>(by cases ht),List.Pairwise.nil,fun t ht=>(by cases ht)⟩
 obtain ⟨j1,j2⟩:=hok (1+M) [] id0 p2 hp2 ⟨by omega,by omega⟩ h0;refine ⟨(tabsK l (1+M) [] id0 p2).1,(tabsK l (1+M) [] id0 p2).2,⟨by rw [List.length_nil] at j1;omega,j2⟩,?_⟩;clear j1 j2;generalize hres:tabsK l (1+M) [] id0 p2=res;refine gEn env Tryz.func28 fun Γ hN hK hML=>?_;(refine g ?_;intros);(refine ⟨_,_,_,callG [(0,0)] [] [] rfl rfl rfl (by kernel_rfl) (sp1) (by repeat' (first | exact trivial | exact Lent.refl _ | exact Lent.norm _ | exact Lent.whole rfl rfl (by first | rfl | exact List.length_append.symm | exact hlenR | simp) rfl (by first | exact .inl rfl | exact .inr rfl) | apply And.intro)) rfl ⟨rfl,rfl,rfl,rfl,rfl,by repeat' (first | exact trivial | rfl | apply And.intro),rfl,rfl⟩,?_⟩;conv=>whnf);(refine g ?_;intros);(refine ⟨_,_,_,callG [(0,0)] [] [] rfl rfl rfl (by kernel_rfl) (sp2) (by repeat' (first | exact trivial | exact Lent.refl _ | exact Lent.norm _ | exact Lent.whole rfl rfl (by first | rfl | exact List.length_append.symm | exact hlenR | simp) rfl (by first | exact .inl rfl | exact .inr rfl) | apply And.intro)) rfl ⟨rfl,rfl,rfl,rfl,rfl,by repeat' (first | exact trivial | rfl | apply And.intro),rfl,rfl⟩,?_⟩;conv=>whnf);(refine g ?_;intros);refine W.ownNil 5 90 3 rfl rfl ?_;refine W.loopR (fun k st=>∃ (m q:Nat) (out:List Table) (id:Int),q≤l.length∧out.length+m≤4∧(0≤id∧id≤100-2*m)∧TabsOK out id∧tabsK l m out id q=res∧k=m∧st=⟨[(0,.bp 0 0),(5,.osl 90 0 0 (tblRows out).length (tblRows out).length),(6,.int .i64 id),(7,.int .i64 (m:Nat))],[(0,[diceB l q]),(90,[.rows 3 (tblRows out) (some [])])],[0,90]⟩)
  (1+M) _ ⟨1+M,p2,[],id0,hp2,by show 0+(1+M)≤4;omega,⟨by omega,by omega⟩,h0,hres,rfl,rfl⟩ (by rw [show ((1+M:Nat):Int)=1+(M:Int) by omega];exact gY) ?_
 clear hok h0 hres sp1 sp2;rintro k st ⟨m,q,out,id,hq,hom,hid,hok,he,rfl,rfl⟩;have hol:=tblRows_len out;cases k with
 | zero =>
  rw [tabsK] at he;subst he;(refine g ?_;intros);refine W.leG (mp:=[(0,0)]) (bo:=[90]) (st':=⟨[(4,.sl (tblRows out) false)],[(0,[diceB l q])],[0]⟩)
   (LeG.mk' rfl rfl rfl ⟨⟨_,Lent.whole rfl rfl rfl rfl (.inl rfl),rfl⟩,trivial⟩ (.ci 0 .nil) rfl rfl (by rw [hK];rfl)) ?_
  (refine gM ?_;conv=>whnf);exact retH rfl (.refl _) rfl rfl rfl ⟨rfl,rfl,trivial⟩
 | succ n =>
  have hq1:=nextP_le hq;have spI:=next_spec l q 2 (by omega) hq;have hrI:=nextV_range l q (n:=2) (by omega);have spT:=table_spec l (id+(1+nextV l q 2)) (nextP l q) hq1;obtain ⟨g1,g2,g3⟩:=tblF_ok (l:=l) (id:=id+(1+nextV l q 2)) hq1;have hf:=few_good g1 (by rw [g2];omega);have hok2:=hok.snoc hf (by rw [g2];omega);rw [g2] at hok2;rw [tabsK] at he;generalize nextV l q 2=dv at *;generalize tblF l (id+(1+dv)) (nextP l q)=TT at *;obtain ⟨t,q1⟩:=TT;simp only at spT g3 hf hok2 he;by_cases h0:out.length=0
  ·rw [if_pos h0] at he;have hql:=g3;(refine g ?_;intros);(refine ⟨_,_,_,callG [(0,0)] [] [] rfl rfl rfl (by kernel_rfl) (spI) (by repeat' (first | exact trivial | exact Lent.refl _ | exact Lent.norm _ | exact Lent.whole rfl rfl (by first | rfl | exact List.length_append.symm | exact hlenR | simp) rfl (by first | exact .inl rfl | exact .inr rfl) | apply And.intro)) rfl ⟨rfl,rfl,rfl,rfl,rfl,by repeat' (first | exact trivial | rfl | apply And.intro),rfl,rfl⟩,?_⟩;conv=>whnf);(refine g ?_;intros);(refine ⟨_,_,_,callG [(0,0)] [] [] rfl rfl rfl (by kernel_rfl) (spT) (by repeat' (first | exact trivial | exact Lent.refl _ | exact Lent.norm _ | exact Lent.whole rfl rfl (by first | rfl | exact List.length_append.symm | exact hlenR | simp) rfl (by first | exact .inl rfl | exact .inr rfl) | apply And.intro)) rfl ⟨rfl,rfl,rfl,rfl,rfl,by repeat' (first | exact trivial | rfl | apply And.intro),rfl,rfl⟩,?_⟩;conv=>whnf);(refine g ?_;intros);refine ⟨⟨rowsSz_cons rfl rowsSz_nil,rfl⟩,fitsN (n:=(tblRows out).length+1) (b:=48) (by omega) (by omega),.inl ⟨rfl,rfl,?_⟩⟩;(conv=>whnf);(refine g ?_;intros);refine ⟨n,_,by omega,⟨n,_,out++[_],_,hql,by rw [List.length_append,List.length_singleton];omega,⟨by omega,by omega⟩,hok2,he,rfl,rfl⟩,?_⟩;rw [tblRows_snoc,List.length_append,show ((n:Nat):Int)=((n+1:Nat):Int)-1 by omega];exact gY
  ·rw [if_neg h0] at he;have spF:=next_spec l q1 4 (by omega) g3;have hq2:=nextP_le g3;generalize nextV l q1 4=fv at *;by_cases hfv:fv=0
   ·rw [if_pos hfv] at he;have spG:=next_spec l (nextP l q1) (out.length:Nat) (by omega) hq2;have hrG:=nextV_range l (nextP l q1) (n:=(out.length:Nat)) (by omega);have hq3:=nextP_le hq2;generalize nextV l (nextP l q1) (out.length:Nat)=iv at *;obtain ⟨i,rfl⟩:=Int.eq_ofNat_of_zero_le hrG.1;have hil:i<out.length:=by omega
    have hxg:=tblRows_get hil;have hfx:=hok.few _ (List.getElem_mem hil);rw [Int.toNat_natCast,show out.getD i Table.zero=out[i] by simp [List.getD_eq_getElem?_getD,hil]] at he;generalize out[i]=x at *;generalize nextP l (nextP l q1)=q3 at *;have spD:=derived_spec l q3 hq3 hfx (id+(1+dv));obtain ⟨d1,d2⟩:=derM_ok (l:=l) (nextV l q3 3).toNat (nextP l q3) x (nextP_le hq3) hfx;have hql:(derK l q3 x (id+(1+dv))).2≤l.length:=d2;have hfd:FewT (derK l q3 x (id+(1+dv))).1:=few_id d1 ⟨by omega,by omega⟩;have hok2:=hok.snoc hfd (show id<id+(1+dv) by omega);have hok2:TabsOK (out++[(derK l q3 x (id+(1+dv))).1]) (id+(1+dv)):=hok2;generalize derK l q3 x (id+(1+dv))=DD at *;obtain ⟨u,q4⟩:=DD;simp only at spD hql hok2 he;rw [←hol] at spG;(refine g ?_;intros);(refine ⟨_,_,_,callG [(0,0)] [] [] rfl rfl rfl (by kernel_rfl) (spI) (by repeat' (first | exact trivial | exact Lent.refl _ | exact Lent.norm _ | exact Lent.whole rfl rfl (by first | rfl | exact List.length_append.symm | exact hlenR | simp) rfl (by first | exact .inl rfl | exact .inr rfl) | apply And.intro)) rfl ⟨rfl,rfl,rfl,rfl,rfl,by repeat' (first | exact trivial | rfl | apply And.intro),rfl,rfl⟩,?_⟩;conv=>whnf);(refine g ?_;intros);(refine ⟨_,_,_,callG [(0,0)] [] [] rfl rfl rfl (by kernel_rfl) (spT) (by repeat' (first | exact trivial | exact Lent.refl _ | exact Lent.norm _ | exact Lent.whole rfl rfl (by first | rfl | exact List.length_append.symm | exact hlenR | simp) rfl (by first | exact .inl rfl | exact .inr rfl) | apply And.intro)) rfl ⟨rfl,rfl,rfl,rfl,rfl,by repeat' (first | exact trivial | rfl | apply And.intro),rfl,rfl⟩,?_⟩;conv=>whnf);(refine g ?_;intros);(refine ⟨_,_,_,callG [(0,0)] [] [] rfl rfl rfl (by kernel_rfl) (spF) (by repeat' (first | exact trivial | exact Lent.refl _ | exact Lent.norm _ | exact Lent.whole rfl rfl (by first | rfl | exact List.length_append.symm | exact hlenR | simp) rfl (by first | exact .inl rfl | exact .inr rfl) | apply And.intro)) rfl ⟨rfl,rfl,rfl,rfl,rfl,by repeat' (first | exact trivial | rfl | apply And.intro),rfl,rfl⟩,?_⟩;conv=>whnf);(refine g ?_;intros);(refine ⟨_,_,_,callG [(0,0)] [] [] rfl rfl rfl (by kernel_rfl) (spG) (by repeat' (first | exact trivial | exact Lent.refl _ | exact Lent.norm _ | exact Lent.whole rfl rfl (by first | rfl | exact List.length_append.symm | exact hlenR | simp) rfl (by first | exact .inl rfl | exact .inr rfl) | apply And.intro)) rfl ⟨rfl,rfl,rfl,rfl,rfl,by repeat' (first | exact trivial | rfl | apply And.intro),rfl,rfl⟩,?_⟩;conv=>whnf);(refine g ?_;intros);(refine ⟨_,_,_,callG [(0,0)] [] [] rfl rfl rfl (by kernel_rfl) (spD) (by repeat' (first | exact trivial | exact Lent.refl _ | exact Lent.norm _ | exact Lent.whole rfl rfl (by first | rfl | exact List.length_append.symm | exact hlenR | simp) rfl (by first | exact .inl rfl | exact .inr rfl) | apply And.intro)) rfl ⟨rfl,rfl,rfl,rfl,rfl,by repeat' (first | exact trivial | rfl | apply And.intro),rfl,rfl⟩,?_⟩;conv=>whnf);(refine g ?_;intros);refine ⟨⟨rowsSz_cons rfl rowsSz_nil,rfl⟩,fitsN (n:=(tblRows out).length+1) (b:=48) (by omega) (by omega),.inl ⟨rfl,rfl,?_⟩⟩;(conv=>whnf);(refine g ?_;intros);refine ⟨n,_,by omega,⟨n,_,out++[_],_,hql,by rw [List.length_append,List.length_singleton];omega,⟨by omega,by omega⟩,hok2,he,rfl,rfl⟩,?_⟩;rw [tblRows_snoc,List.length_append,show ((n:Nat):Int)=((n+1:Nat):Int)-1 by omega];exact gY
   ·rw [if_neg hfv] at he;have hql:=hq2;(refine g ?_;intros);(refine ⟨_,_,_,callG [(0,0)] [] [] rfl rfl rfl (by kernel_rfl) (spI) (by repeat' (first | exact trivial | exact Lent.refl _ | exact Lent.norm _ | exact Lent.whole rfl rfl (by first | rfl | exact List.length_append.symm | exact hlenR | simp) rfl (by first | exact .inl rfl | exact .inr rfl) | apply And.intro)) rfl ⟨rfl,rfl,rfl,rfl,rfl,by repeat' (first | exact trivial | rfl | apply And.intro),rfl,rfl⟩,?_⟩;conv=>whnf);(refine g ?_;intros);(refine ⟨_,_,_,callG [(0,0)] [] [] rfl rfl rfl (by kernel_rfl) (spT) (by repeat' (first | exact trivial | exact Lent.refl _ | exact Lent.norm _ | exact Lent.whole rfl rfl (by first | rfl | exact List.length_append.symm | exact hlenR | simp) rfl (by first | exact .inl rfl | exact .inr rfl) | apply And.intro)) rfl ⟨rfl,rfl,rfl,rfl,rfl,by repeat' (first | exact trivial | rfl | apply And.intro),rfl,rfl⟩,?_⟩;conv=>whnf);(refine g ?_;intros);(refine ⟨_,_,_,callG [(0,0)] [] [] rfl rfl rfl (by kernel_rfl) (spF) (by repeat' (first | exact trivial | exact Lent.refl _ | exact Lent.norm _ | exact Lent.whole rfl rfl (by first | rfl | exact List.length_append.symm | exact hlenR | simp) rfl (by first | exact .inl rfl | exact .inr rfl) | apply And.intro)) rfl ⟨rfl,rfl,rfl,rfl,rfl,by repeat' (first | exact trivial | rfl | apply And.intro),rfl,rfl⟩,?_⟩;conv=>whnf);(refine g ?_;intros);refine ⟨⟨rowsSz_cons rfl rowsSz_nil,rfl⟩,fitsN (n:=(tblRows out).length+1) (b:=48) (by omega) (by omega),.inl ⟨rfl,rfl,?_⟩⟩;(conv=>whnf);(refine g ?_;intros);refine ⟨n,_,by omega,⟨n,_,out++[_],_,hql,by rw [List.length_append,List.length_singleton];omega,⟨by omega,by omega⟩,hok2,he,rfl,rfl⟩,?_⟩;rw [tblRows_snoc,List.length_append,show ((n:Nat):Int)=((n+1:Nat):Int)-1 by omega];exact gY
end Go.Sx.Sp
namespace Go.Sx.Sp
open Go Go.Sx Go.Proofs Go.Sort
attribute [local irreducible] GoodW famL
def qN:Table:=⟨0,[],[⟨[],[⟨true,[]⟩]⟩]⟩
theorem listB_tabs {L:List Table}(h:L.length≤4) (ok:TabsOK L 100):listB L=true:=by
 unfold listB;have h1:ascB L=true:=(ascB_iff L).2 fun i hi=>List.pairwise_iff_getElem.1 ok.asc i (i+1) (by omega) (by omega) (by omega);have h2:L.all validB=true:=List.all_eq_true.2 fun t ht=>(ok.few t ht).val;rw [h1,h2,decide_eq_true (show L.length≤1024 by omega)];rfl
theorem refsT_full {a:Table}{n:Nat}{r:Rf}(h:r∈refsT a n) (hn:n≤a.cols.length) (hv:validB a=true):0<rowsN a:=by
 unfold refsT at h;obtain ⟨i,hi,rfl⟩:=List.mem_map.1 h;obtain ⟨h1,h2⟩:=List.mem_filter.1 hi;have hil:i<a.cols.length:=by have:=List.mem_range.1 h1;omega
 rw [show a.cols.getD i ⟨[],[]⟩=a.cols[i] by simp [List.getD_eq_getElem?_getD,hil]] at h2;unfold fullC at h2;obtain ⟨x,hx,_⟩:=List.any_eq_true.1 h2;have:=List.length_pos_iff.2 (List.ne_nil_of_mem hx);have:=(validB_rows hv).2 _ (List.getElem_mem hil);omega
theorem any_cont {l:List Table}{a:Table}{r:Rf}(hr:0<(cellsR l ⟨a.id,[]⟩ r).length):contB (shTab l ⟨a.id,[]⟩ [r]) qN=true:=by
 unfold contB;rw [Bool.and_eq_true];refine ⟨decide_eq_true rfl,?_⟩;rw [List.all_eq_true];intro k hk;have hk:k<1:=List.mem_range.1 hk;obtain rfl:k=0:=by omega
 unfold anyB;rw [List.any_eq_true];exact ⟨0,List.mem_range.2 hr,rfl⟩
theorem any_ans {l:List Table}(hl:listB l=true) {a:Table}(ha:a∈l):pathAns l qN ⟨a.id,[]⟩=(refsT a a.cols.length).map fun r=>mkF l ⟨a.id,[]⟩ [r]:=by
 have hv:validB a=true:=by
  unfold listB at hl;simp only [Bool.and_eq_true] at hl;exact List.all_eq_true.1 hl.2.2 a ha
 have hrl:(rowsL l ⟨a.id,[]⟩).length=rowsN a:=by rw [rows_0 hl ha,List.length_map,List.length_range]
 unfold pathAns;rw [if_pos (by rw [hrl];exact (validB_rows hv).1)];unfold ansL;rw [tabs_0 hl ha];have hR:refsL [a]=refsT a a.cols.length:=by
  unfold refsL;rw [List.flatMap_cons,List.flatMap_nil,List.append_nil]
 rw [hR];have hc:choicesR (refsT a a.cols.length) qN.cols.length=(refsT a a.cols.length).map fun r=>[r]:=by
  show (choicesR _ 1)=_;simp [choicesR]
 rw [hc,List.filter_eq_self.2 fun c hc=>?_,List.map_map]
 ·rfl
 ·obtain ⟨r,hr,rfl⟩:=List.mem_map.1 hc;unfold ansB;rw [any_cont (by rw [cellsR_len,hrl];exact refsT_full hr (Nat.le_refl _) hv)];rfl
theorem any_found {l:List Table}(hl:listB l=true) (hsz:l.length≤4) (hc:∀ a∈l,a.cols.length≤3) :
  ∃ S,findM l [] qN 0 1024=(S,0)∧S.length=(refsL l).length∧∀ r∈refsL l,∃ y∈S,y.cs=[r]:=by
 have hB:∀ p∈candL l [] 0,(refsL (tabsM l p)).length ^ qN.cols.length≤3:=fun p hp=>by
  rw [candL_0] at hp;obtain ⟨b,hb,rfl⟩:=List.mem_map.1 hp;rw [tabs_0 hl hb];show (refsL [b]).length ^ 1≤3;rw [Nat.pow_one];unfold refsL;rw [List.flatMap_cons,List.flatMap_nil,List.append_nil];exact Nat.le_trans (refsT_len b _) (hc b hb)
 refine ⟨_,findM_all (N:=4) (B:=3) (k:=0) hl (by omega) (by decide +kernel) (by rw [candL_0,List.length_map];exact hsz) hB (by omega) (by omega),?_,fun r hr=>?_⟩
 ·rw [sortBy_len];unfold ansF;rw [((sortBy_perm ordC (candL l [] 0)).flatMap_right (pathAns l qN)).length_eq,candL_0,List.flatMap_map];unfold refsL;rw [List.length_flatMap,List.length_flatMap];refine congrArg List.sum (List.map_congr_left fun a ha=>?_);rw [any_ans hl ha,List.length_map]
 ·obtain ⟨a,ha,hr⟩:=List.mem_flatMap.1 hr;refine ⟨mkF l ⟨a.id,[]⟩ [r],?_,rfl⟩;rw [sortBy_mem,ansF_mem];exact ⟨⟨a.id,[]⟩,by rw [candL_0];exact List.mem_map_of_mem ha,by rw [any_ans hl ha];exact List.mem_map_of_mem hr⟩
theorem refsL_take {l:List Table}{k:Nat}(hk:k<l.length):refsL (l.take (k+1))=refsL (l.take k)++refsT l[k] l[k].cols.length:=by
 unfold refsL;rw [List.take_succ_eq_append_getElem hk,List.flatMap_append,List.flatMap_cons,List.flatMap_nil,List.append_nil]
def isA (r:Rf) (y:Fnd):Bool:=decide (y.cs=[r])
set_option maxHeartbeats 16000000 in
theorem exAny_law (t:List Int):Spec Tryz.prog 6 [.sl (intRows .i64 t) false] [] (.bool true) []:=by
 have hl:=intRows_len .i64 t;have spL:=light_spec t;have spA:=awake35_spec;by_cases hll:t.length≤500
 ·rw [decide_eq_true hll] at spL;obtain ⟨L,q,⟨hL4,hok⟩,spT⟩:=tabs_spec t 0 (Nat.zero_le _);have hlist:=listB_tabs hL4 hok;have hsm:=listB_small hlist;have hc3:∀ a∈L,a.cols.length≤3:=fun a ha=>(hok.few a ha).cols;obtain ⟨S,hS,hSl,hSr⟩:=any_found hlist hL4 hc3;have spF:=exFind_spec L [] qN 0 1024 hsm (fun r hr=>by cases hr) (by decide);rw [hS] at spF;simp only at spF;have hLl:=tblRows_len L;have hfl:=fndRows_len S;have hRb:∀ k,(refsL (L.take k)).length≤12:=fun k=>by
   have h1:=flat_le (fun t:Table=>refsT t t.cols.length) 3 (L.take k) fun t ht=>Nat.le_trans (refsT_len t _) (hc3 t (List.mem_of_mem_take ht));have h2:(L.take k).length≤4:=by rw [List.length_take];omega
   unfold refsL;omega
  clear hok;refine gEn env Tryz.func6 fun Γ hN hK hML=>?_;(refine g ?_;intros);(refine gCA [] [(5,70)] [] (roll_spec t) ?_;conv=>whnf);(refine g ?_;intros);(refine gCA [(0,70)] [] [] (spT) ?_;conv=>whnf);(refine g ?_;intros);refine W.loopG (fun m st=>∃ (k n:Nat),k≤L.length∧n=(refsL (L.take k)).length∧m=L.length-k∧st=⟨[(5,.sl (fndRows S) false),(6,.int .i64 0),(7,.int .i64 (n:Nat)),(36,.sl (tblRows L) false),(37,.int .i64 (tblRows L).length),(38,.int .i64 (k:Nat))],[],[]⟩)
   L.length _ ⟨0,0,Nat.zero_le _,rfl,rfl,rfl⟩ gX ?_
  rintro m st ⟨k,n,hk,hn,rfl,rfl⟩;(refine g ?_;intros);refine boolRes_split (fun hb=>?_) (fun hb=>?_)<;>conv=>whnf
  ·have hkl:k<L.length:=by omega
   have htg:=tblRows_get hkl;have hrt:=refsL_take hkl;have hac:=hc3 _ (List.getElem_mem hkl);have hfound:∀ r∈refsT L[k] L[k].cols.length,∃ y∈S,y.cs=[r]:=fun r hr=>hSr r (List.mem_flatMap.2 ⟨_,List.getElem_mem hkl,hr⟩);generalize L[k]=a at *;have hcl:=colRows_len a.cols;(refine g ?_;intros);refine W.loopG (fun m st=>∃ (i n:Nat),i≤a.cols.length∧n=(refsL (L.take k)).length+(refsT a i).length∧m=a.cols.length-i∧st=⟨[(5,.sl (fndRows S) false),(6,.int .i64 0),(7,.int .i64 (n:Nat)),(36,.sl (tblRows L) false),(37,.int .i64 (tblRows L).length),(38,.int .i64 (k:Nat)),(9,.bp 9 0),(43,.sl (colRows a.cols) false),(44,.int .i64 (colRows a.cols).length),(45,.int .i64 (i:Nat))],[(9,[.rows 3 [a.row] none])],[9]⟩)
    a.cols.length _ ⟨0,n,Nat.zero_le _,by rw [hn];rfl,rfl,rfl⟩ gX ?_
   clear hn n;rintro m st ⟨i,n,hi,hn,rfl,rfl⟩;(refine g ?_;intros);refine boolRes_split (fun hb=>?_) (fun hb=>?_)<;>conv=>whnf
   ·have hil:i<a.cols.length:=by omega
    have hcg:=colRows_get hil;have hst:=refsT_succ a i;rw [show a.cols.getD i ⟨[],[]⟩=a.cols[i] by simp [List.getD_eq_getElem?_getD,hil]] at hst;have hmem:fullC a.cols[i]=true→∃ y∈S,y.cs=[(⟨a.id,(i:Int)⟩:Rf)]:=fun hf=>hfound _ (by
     unfold refsT
     exact List.mem_map.2 ⟨i,List.mem_filter.2 ⟨List.mem_range.2 hil,by rw [show a.cols.getD i ⟨[],[]⟩=a.cols[i] by simp [List.getD_eq_getElem?_getD,hil]];exact hf⟩,rfl⟩)
    generalize a.cols[i]=c at *;have hxl:=cellRows_len c.cells;(refine g ?_;intros);refine W.loopG (fun m st=>∃ (j:Nat) (b:Bool),j≤c.cells.length∧(b||(c.cells.drop j).any fun x=>!x.null)=fullC c∧m=c.cells.length-j∧st=⟨[(5,.sl (fndRows S) false),(6,.int .i64 0),(7,.int .i64 (n:Nat)),(36,.sl (tblRows L) false),(37,.int .i64 (tblRows L).length),(38,.int .i64 (k:Nat)),(9,.bp 9 0),(43,.sl (colRows a.cols) false),(44,.int .i64 (colRows a.cols).length),(45,.int .i64 (i:Nat)),(10,.int .i64 (i:Nat)),(12,.bool b),(51,.sl (cellRows c.cells) false),(52,.int .i64 (cellRows c.cells).length),(53,.int .i64 (j:Nat))],[(9,[.rows 3 [a.row] none])],[9]⟩)
     c.cells.length _ ⟨0,false,Nat.zero_le _,rfl,rfl,rfl⟩ gX ?_
    rintro m st ⟨j,b,hj,hbb,rfl,rfl⟩;(refine g ?_;intros);refine boolRes_split (fun hb=>?_) (fun hb=>?_)<;>conv=>whnf
    ·have hjl:j<c.cells.length:=by omega
     have hxg:=cellRows_get hjl;rw [List.drop_eq_getElem_cons hjl,List.any_cons] at hbb;generalize c.cells[j]=x at *;obtain ⟨xn,xt⟩:=x;cases b with
     | true =>
      (refine g ?_;intros);exact gZ ⟨j+1,true,by omega,by rw [Bool.true_or] at hbb ⊢;exact hbb,rfl,rfl⟩
     | false =>
      (refine g ?_;intros);exact gZ ⟨j+1,!xn,by omega,by rw [Bool.false_or] at hbb;exact hbb,rfl,rfl⟩
    ·have hje:j=c.cells.length:=by omega
     rw [hje,List.drop_length,List.any_nil,Bool.or_false] at hbb;rw [←hbb] at hst hmem;cases b with
     | false =>
      rw [if_neg (by decide)] at hst;(refine g ?_;intros);exact gZ ⟨i+1,n,by omega,by rw [hst];exact hn,rfl,rfl⟩
     | true =>
      rw [if_pos rfl] at hst;obtain ⟨y0,hy0,hyc⟩:=hmem rfl;have hany:S.any (isA ⟨a.id,(i:Int)⟩)=true:=List.any_eq_true.2 ⟨y0,hy0,decide_eq_true hyc⟩;have hn1:n+1=(refsL (L.take k)).length+(refsT a (i+1)).length:=by rw [hst,List.length_append,List.length_singleton];omega
      have hnb:=hRb k;have hnc:=refsT_len a i;have hcast:(n:Int)+1=((n+1:Nat):Int):=by omega
      (refine g ?_;intros);rw [hcast];generalize n+1=n at *;refine W.loopG (fun m st=>∃ (j:Nat) (b:Bool),j≤S.length∧(b||(S.drop j).any (isA ⟨a.id,(i:Int)⟩))=true∧m=S.length-j∧st=⟨[(5,.sl (fndRows S) false),(6,.int .i64 0),(7,.int .i64 (n:Nat)),(36,.sl (tblRows L) false),(37,.int .i64 (tblRows L).length),(38,.int .i64 (k:Nat)),(9,.bp 9 0),(43,.sl (colRows a.cols) false),(44,.int .i64 (colRows a.cols).length),(45,.int .i64 (i:Nat)),(10,.int .i64 (i:Nat)),(15,.bool b),(68,.sl (fndRows S) false),(69,.int .i64 (fndRows S).length),(70,.int .i64 (j:Nat))],[(9,[.rows 3 [a.row] none])],[9]⟩)
       S.length _ ⟨0,false,Nat.zero_le _,hany,rfl,rfl⟩ gX ?_
      clear hany hcast;rintro m st ⟨j,b,hj,hbb,rfl,rfl⟩;(refine g ?_;intros);refine boolRes_split (fun hb=>?_) (fun hb=>?_)<;>conv=>whnf
      ·have hjl:j<S.length:=by omega
       have hyg:=fndRows_get hjl;rw [List.drop_eq_getElem_cons hjl,List.any_cons] at hbb;generalize S[j]=y at *;cases b with
       | true =>
        (refine g ?_;intros);exact gZ ⟨j+1,true,by omega,rfl,rfl,rfl⟩
       | false =>
        obtain ⟨yp,yc,yr⟩:=y;replace hyg:(fndRows S)[j]?=some [.int .i64 yp.start,.sl (stpRows yp.steps) false,.sl [] false,.sl (rfRows yc) false,.int .i64 yr]:=hyg;rcases yc with _ | ⟨s,_ | ⟨u,r⟩⟩
        ·have hz:(rfRows ([]:List Rf)).length=0:=rfl;replace hbb:(false||(S.drop (j+1)).any (isA ⟨a.id,(i:Int)⟩))=true:=hbb;(refine g ?_;intros);exact gZ ⟨j+1,false,by omega,hbb,rfl,rfl⟩
        ·have hz:(rfRows [s]).length=1:=rfl;have hs0:(rfRows [s])[0]?=some s.row:=rfl;have hA:isA ⟨a.id,(i:Int)⟩ ⟨yp,[s],yr⟩=decide (s=⟨a.id,(i:Int)⟩):=decide_eq_decide.2 (by simp);rw [hA,Bool.false_or] at hbb;(refine g ?_;intros);refine ⟨_,_,_,refs_eql rfl s ⟨a.id,(i:Int)⟩ rfl rfl (by kernel_rfl),?_⟩;generalize decide (s=(⟨a.id,(i:Int)⟩:Rf))=e at *;(conv=>whnf);(refine g ?_;intros);exact gZ ⟨j+1,e,by omega,hbb,rfl,rfl⟩
        ·have hz:2≤(rfRows (s::u::r)).length:=by rw [rfRows_len];simp
         have hA:isA ⟨a.id,(i:Int)⟩ ⟨yp,s::u::r,yr⟩=false:=decide_eq_false (by simp);rw [hA,Bool.false_or] at hbb;(refine g ?_;intros);exact gZ ⟨j+1,false,by omega,hbb,rfl,rfl⟩
      ·rw [List.drop_eq_nil_of_le (by omega),List.any_nil,Bool.or_false] at hbb;subst hbb;(refine g ?_;intros);exact gZ ⟨i+1,n,by omega,hn1,rfl,rfl⟩
   ·have hie:i=a.cols.length:=by omega
    rw [hie] at hn;(refine g ?_;intros);exact gZ ⟨k+1,n,by omega,by rw [hrt,List.length_append];exact hn,rfl,rfl⟩
  ·have hke:k=L.length:=by omega
   rw [hke,List.take_length,←hSl] at hn;exact gR
 ·rw [decide_eq_false hll] at spL;refine gEn env Tryz.func6 fun Γ hN hK hML=>?_;exact gR
end Go.Sx.Sp
namespace Go.Sx.Sp
open Go Go.Sx Go.Proofs
attribute [local irreducible] GoodW famL
theorem exany_calls {w:World}{v0:Value}{u0:V}(r0:VRel w (fun _=>False) (fun _ _=>none) u0 v0) (a0:argShape T 2 22 u0) (hg:GRel w (fun _=>False)) :
  Calls Tryz.prog 6 #[v0] w fun e w'=>e=.returned (.bool true)∧Go.RowKit.Below w.heap.size w w':=by
 obtain ⟨l,rfl⟩:=arg_ints a0;refine Spec.law (exAny_law l) (cargs:=[v0]) rfl (fun j u c hj hc=>?_) rfl hg
 match j with
 | 0=>cases hj;cases hc;exact r0
 | j+1=>cases hj
end Go.Sx.Sp
