/- Keys, rows and differences, as the document tells them. -/
import Derived.Test.YthhhdpnchjnfnaaDoorDThree
import Derived.Test.YthhhdpnchjnfnaaDoorSxFour
set_option linter.unusedVariables false
set_option linter.unusedSimpArgs false
namespace Go.Sx.Sp
open Go Go.Sx Go.Proofs
attribute [local irreducible] GoodW
set_option maxHeartbeats 2000000 in
theorem row37_spec (t:Table) (i:Nat) (hi:∀ c∈t.cols,i<c.cells.length) (hn:t.cols.length≤4294967295):Spec Tryd.prog 23 [.agg t.row,.int .i64 i] [] (.sl (cellRows (rowM t i)) false) []:=by
 have hcl:=colRows_len t.cols
 refine gEn env Tryd.func23 fun Γ hN hK hML=>?_
 (refine gGo ?_;intros)
 refine W.ownNil 5 51 2 rfl rfl ?_
 refine W.loopG (fun n st=>∃ j:Nat,j≤t.cols.length∧n=t.cols.length-j∧st=⟨[(1,.int .i64 i),(5,.osl 51 0 0 j j),(9,.sl (colRows t.cols) false),(10,.int .i64 (colRows t.cols).length),(11,.int .i64 j)],[(51,[.rows 2 (cellRows ((rowM t i).take j)) (some [])])],[51]⟩)
  t.cols.length _ ⟨0,by omega,by omega,rfl⟩ ⟨[(51,51)],[],[],.mq (.ci 51 .nil)⟩ ?_
 rintro n st ⟨j,hj,rfl,rfl⟩
 (refine gGo ?_;intros)
 refine boolRes_split (fun hb=>?_) (fun hb=>?_)<;>conv=>whnf
 ·have hlt:j<t.cols.length:=by omega
  have hg:=colRows_get hlt
  have hc:=hi _ (List.getElem_mem hlt)
  have hsn:(rowM t i).take (j+1)=(rowM t i).take j++[cellAt t.cols[j] i]:=by
   rw [List.take_succ_eq_append_getElem (by rw [rowM_len];exact hlt)]
   simp [rowM]
  have hjl:(cellRows ((rowM t i).take j)).length=j:=by rw [cellRows_len,List.length_take,rowM_len];omega
  have hca:cellAt t.cols[j] i=t.cols[j].cells[i]:=by simp [cellAt,hc]
  rw [hca] at hsn
  generalize t.cols[j]=c at *
  have hgc:=cellRows_get hc
  have hl:=cellRows_len c.cells
  generalize c.cells[i]=x at *
  (refine gGo ?_;intros)
  refine rowAt_of (by simpa using hg) ?_
  conv=>whnf
  (refine gGo ?_;intros)
  refine rowAt_of (by simpa using hgc) ?_
  conv=>whnf
  (refine gGo ?_;intros)
  refine ⟨⟨rowsSz_cons rfl rowsSz_nil,hjl.symm⟩,fitN (n:=j+1) (b:=24) (by omega) (by omega),.inl ⟨rfl,rfl,?_⟩⟩
  conv=>whnf
  (refine gGo ?_;intros)
  refine ⟨_,_,?_,⟨j+1,by omega,rfl,rfl⟩,[(51,51)],[],[],LeG.mq (.cons 51 rfl rfl (.refl _) ?_ .nil)⟩
  ·omega
  ·rw [hsn];simp only [cellRows,List.map_append];rfl
 ·have hje:j=t.cols.length:=by omega
  have htk:(rowM t i).take j=rowM t i:=List.take_of_length_le (by rw [rowM_len];omega)
  have hjl:j=(cellRows (rowM t i)).length:=by rw [cellRows_len,rowM_len];omega
  rw [htk]
  refine W.leG (mp:=[]) (bo:=[51]) (st':=⟨[(5,.sl (cellRows (rowM t i)) false),(12,.bool false)],[],[]⟩) (LeG.mk' rfl rfl rfl ⟨⟨_,Lent.whole rfl rfl hjl rfl (.inl rfl),rfl⟩,⟨_,.refl _,rfl⟩,trivial⟩ .nil rfl rfl (by rw [hK];rfl)) ?_
  (refine gGr ?_;intros)
  exact ret0 rfl rfl rfl
set_option maxHeartbeats 2000000 in
theorem isKey37_spec (t:Table) (k:Nat) (hk:k<t.cols.length):Spec Tryd.prog 42 [.agg t.row,.int .i64 k] [] (.bool (keyB t.cols[k].cells)) []:=by
 have hcl:=colRows_len t.cols
 have hx:=colRows_get hk
 generalize t.cols[k]=c at *
 have hl:=cellRows_len c.cells
 unfold keyB
 refine gEn env Tryd.func42 fun Γ hN hK hML=>?_
 (refine gGo ?_;intros)
 refine rowAt_of (by simpa using hx) ?_
 conv=>whnf
 (refine gGo ?_;intros)
 refine W.loopG (fun n st=>∃ j:Nat,j≤c.cells.length∧keyFrom [] c.cells=keyFrom (textsOf (c.cells.take j)) (c.cells.drop j)∧n=c.cells.length-j∧st=⟨[(5,.omap 8 0),(14,.sl (cellRows c.cells) false),(15,.int .i64 (cellRows c.cells).length),(16,.int .i64 j)],[(8,[.map (mapG (fun _=>.bool true) 0 (textsOf (c.cells.take j))) (textsOf (c.cells.take j)).length (some [])])],[8]⟩)
  c.cells.length _ ⟨0,by omega,rfl,by omega,rfl⟩ ⟨[(8,8)],[],[],.mq (.ci 8 .nil)⟩ ?_
 rintro n st ⟨j,hj,hkf,rfl,rfl⟩
 (refine gGo ?_;intros)
 refine boolRes_split (fun hb=>?_) (fun hb=>?_)<;>conv=>whnf
 ·have hlt:j<c.cells.length:=by omega
  have hg:=cellRows_get hlt
  have hd:c.cells.drop j=c.cells[j]::c.cells.drop (j+1):=List.drop_eq_getElem_cons hlt
  have ht:textsOf (c.cells.take (j+1))=textsOf (c.cells.take j)++[c.cells[j].text]:=by
   unfold textsOf;rw [List.take_succ_eq_append_getElem hlt,List.map_append];rfl
  rw [hd] at hkf
  simp only [keyFrom] at hkf
  rw [←ht] at hkf
  generalize c.cells[j]=x at *
  (refine gGo ?_;intros)
  refine rowAt_of (by simpa using hg) ?_
  conv=>whnf
  (refine gGo ?_;intros)
  cases hn:x.null with
  | true =>
   (refine gGr ?_;intros)
   exact ret0 rfl (congrArg V.bool (by rw [hkf];simp [hn])) rfl
  | false =>
   (refine gGo ?_;intros)
   refine zok_intro (by kernel_rfl) ?_
   conv=>whnf
   obtain ⟨r,hr1,hr2⟩:=flags_at x.text (textsOf (c.cells.take j))
   refine ⟨r,hr1,?_⟩
   rw [hr2]
   conv=>whnf
   by_cases hm:x.text∈textsOf (c.cells.take j)
   ·rw [decide_eq_true hm]
    (refine gGr ?_;intros)
    exact ret0 rfl (congrArg V.bool (by rw [hkf];simp [hm])) rfl
   ·rw [decide_eq_false hm]
    (refine gGo ?_;intros)
    refine ⟨none,mapG_new _ hm,?_⟩
    conv=>whnf
    (refine gGo ?_;intros)
    refine ⟨_,_,?_,⟨j+1,by omega,by rw [hkf];simp [hn,hm],rfl,rfl⟩,[(8,8)],[],[],LeG.mq (.cons 8 rfl rfl (.refl _) ?_ .nil)⟩
    ·omega
    ·rw [ht,mapG_snoc,List.length_append]
     simp
     rfl
 ·have hje:j=c.cells.length:=by omega
  rw [hje,List.drop_length] at hkf
  (refine gGr ?_;intros)
  exact ret0 rfl (congrArg V.bool (by rw [hkf];rfl)) rfl
def check37M (t:Table) (key:Int):Int:=if validB t=true then (if inB key t=true then (if keyB (colK t key.toNat)=true then 0 else 20) else 2) else 1
set_option maxHeartbeats 2000000 in
theorem check37_spec (t:Table) (key:Int):Spec Tryd.prog 21 [.agg t.row,.int .i64 key] [] (.int .i64 (check37M t key)) []:=by
 have sp1:=valid3_spec t
 have hcl:=colRows_len t.cols
 refine gEn env Tryd.func21 fun Γ hN hK hML=>?_
 unfold check37M
 cases hv:validB t with
 | false =>
  rw [hv] at sp1
  (refine gGo ?_;intros)
  (refine gPC (sp1) ?_;conv=>whnf)
  (refine gGr ?_;intros)
  exact ret0 rfl rfl rfl
 | true =>
  rw [hv] at sp1
  by_cases h1:0≤key
  ·by_cases h2:key<t.cols.length
   ·obtain ⟨k,rfl⟩:∃ k:Nat,key=k:=⟨key.toNat,by omega⟩
    have hk:k<t.cols.length:=by omega
    have eA:colK t k=t.cols[k].cells:=by simp [colK,hk]
    have hin:inB (k:Int) t=true:=by unfold inB;exact decide_eq_true ⟨h1,h2⟩
    have sp2:=isKey37_spec t k hk
    rw [if_pos hin,Int.toNat_natCast,eA]
    generalize keyB t.cols[k].cells=b at *
    (refine gGo ?_;intros)
    (refine gPC (sp1) ?_;conv=>whnf)
    (refine gGo ?_;intros)
    (refine gPC (sp2) ?_;conv=>whnf)
    cases b with
    | false =>
     (refine gGo ?_;intros)
     (refine gGr ?_;intros)
     exact ret0 rfl rfl rfl
    | true =>
     (refine gGo ?_;intros)
     (refine gGr ?_;intros)
     exact ret0 rfl rfl rfl
   ·have hin:¬ inB key t=true:=by unfold inB;simp [h2]
    rw [if_neg hin]
    (refine gGo ?_;intros)
    (refine gPC (sp1) ?_;conv=>whnf)
    (refine gGo ?_;intros)
    (refine gGr ?_;intros)
    exact ret0 rfl rfl rfl
  ·have hin:¬ inB key t=true:=by unfold inB;simp [h1]
   rw [if_neg hin]
   (refine gGo ?_;intros)
   (refine gPC (sp1) ?_;conv=>whnf)
   (refine gGo ?_;intros)
   (refine gGr ?_;intros)
   exact ret0 rfl rfl rfl
def find37M (s:Str) (l:List Str):Int:=match ixS s l with | some i=>(i:Nat) | none=>-1
theorem ixS_drop (s:Str):∀ (l:List Str) (j:Nat),s∉l.take j→ixS s l=(ixS s (l.drop j)).map (· + j)
 | l,0,_=>by simp
 | [],j+1,_=>by simp [ixS]
 | x::l,j+1,h=>by
  have h1:¬ s=x:=fun e=>h (by simp [e])
  have h2:s∉l.take j:=fun e=>h (by simp [e])
  simp only [ixS,if_neg h1,List.drop_succ_cons]
  rw [ixS_drop s l j h2]
  cases ixS s (l.drop j)<;>simp;omega
set_option maxHeartbeats 2000000 in
theorem find37_spec (t:Table) (k:Nat) (s:Str) (hk:k<t.cols.length):Spec Tryd.prog 28 [.agg t.row,.int .i64 (k:Nat),.str s] [] (.int .i64 (find37M s (textsOf (colK t k)))) []:=by
 have hcl:=colRows_len t.cols
 have hx:=colRows_get hk
 have eA:colK t k=t.cols[k].cells:=by simp [colK,hk]
 rw [eA]
 generalize t.cols[k]=c at *
 have hl:=cellRows_len c.cells
 refine gEn env Tryd.func28 fun Γ hN hK hML=>?_
 (refine gGo ?_;intros)
 refine rowAt_of (by simpa using hx) ?_
 conv=>whnf
 (refine gGo ?_;intros)
 refine W.loopG (fun n st=>∃ j:Nat,j≤c.cells.length∧s∉(textsOf c.cells).take j∧n=c.cells.length-j∧st=⟨[(2,.str s),(14,.sl (cellRows c.cells) false),(15,.int .i64 (cellRows c.cells).length),(16,.int .i64 j)],[],[]⟩)
  c.cells.length _ ⟨0,by omega,by simp,by omega,rfl⟩ ⟨[],[],[],.mq .nil⟩ ?_
 rintro n st ⟨j,hj,hns,rfl,rfl⟩
 (refine gGo ?_;intros)
 refine boolRes_split (fun hb=>?_) (fun hb=>?_)<;>conv=>whnf
 ·have hlt:j<c.cells.length:=by omega
  have hg:=cellRows_get hlt
  have ht:(textsOf c.cells).take (j+1)=(textsOf c.cells).take j++[c.cells[j].text]:=by
   rw [List.take_succ_eq_append_getElem (by simpa [textsOf] using hlt)];simp [textsOf]
  have hd:(textsOf c.cells).drop j=c.cells[j].text::(textsOf c.cells).drop (j+1):=by
   rw [List.drop_eq_getElem_cons (by simpa [textsOf] using hlt)];simp [textsOf]
  have hix:=ixS_drop s _ j hns
  rw [hd] at hix
  generalize c.cells[j]=x at *
  (refine gGo ?_;intros)
  refine rowAt_of (by simpa using hg) ?_
  conv=>whnf
  (refine gGo ?_;intros)
  by_cases he:x.text=s
  ·have hT:find37M s (textsOf c.cells)=(j:Nat):=by
    unfold find37M;rw [hix];simp [ixS,he]
   rw [hT]
   refine boolRes_true he ?_
   conv=>whnf
   (refine gGr ?_;intros)
   exact ret0 rfl rfl rfl
  ·refine boolRes_false he ?_
   conv=>whnf
   (refine gGo ?_;intros)
   refine ⟨_,_,?_,⟨j+1,by omega,by rw [ht];simp only [List.mem_append,List.mem_singleton,not_or];exact ⟨hns,fun e=>he e.symm⟩,rfl,rfl⟩,⟨[],[],[],.mq .nil⟩⟩
   omega
 ·have hje:j=c.cells.length:=by omega
  rw [hje,List.take_of_length_le (by simp [textsOf])] at hns
  have hT:find37M s (textsOf c.cells)=-1:=by unfold find37M;rw [ixS_none.2 hns]
  rw [hT]
  (refine gGr ?_;intros)
  exact ret0 rfl rfl rfl
set_option maxHeartbeats 2000000 in
theorem sameRow37_spec (a b:List Cell):Spec Tryd.prog 34 [.sl (cellRows a) false,.sl (cellRows b) false] [] (.bool (decide (a=b))) []:=by
 have hla:=cellRows_len a
 have hlb:=cellRows_len b
 refine gEn env Tryd.func34 fun Γ hN hK hML=>?_
 by_cases e4:a.length=b.length
 ·(refine gGo ?_;intros)
  refine W.loopG (fun n st=>∃ k:Nat,k≤a.length∧a.take k=b.take k∧n=a.length-k∧st=⟨[(1,.sl (cellRows b) false),(12,.sl (cellRows a) false),(13,.int .i64 (cellRows a).length),(14,.int .i64 k)],[],[]⟩)
   a.length _ ⟨0,by omega,rfl,by omega,rfl⟩ ⟨[],[],[],.mq .nil⟩ ?_
  rintro n st ⟨k,hk,htk,rfl,rfl⟩
  (refine gGo ?_;intros)
  refine boolRes_split (fun hb=>?_) (fun hb=>?_)<;>conv=>whnf
  ·have hlt:k<a.length:=by omega
   have hlt2:k<b.length:=by omega
   have hg1:=cellRows_get hlt
   have hg2:=cellRows_get hlt2
   have htk2:a[k]=b[k]→a.take (k+1)=b.take (k+1):=take_snoc htk hlt hlt2
   have hneq:a[k]≠b[k]→¬ (a=b):=fun h1 h2=>by subst h2;exact h1 rfl
   generalize a[k]=x at *
   generalize b[k]=y at *
   (refine gGo ?_;intros)
   refine rowAt_of (by simpa using hg1) ?_
   conv=>whnf
   (refine gGo ?_;intros)
   refine rowAt_of (by simpa using hg2) ?_
   conv=>whnf
   (refine gGo ?_;intros)
   refine ⟨_,_,_,cells_ne rfl y x rfl rfl (by kernel_rfl),?_⟩
   by_cases e6:y=x
   ·rw [decide_eq_true e6]
    conv=>whnf
    (refine gGo ?_;intros)
    refine ⟨_,_,?_,⟨k+1,by omega,htk2 e6.symm,rfl,rfl⟩,[],[6],[],LeG.mq .nil⟩
    omega
   ·rw [decide_eq_false e6,decide_eq_false (hneq fun e=>e6 e.symm)]
    conv=>whnf
    (refine gGr ?_;intros)
    exact ret0 rfl rfl rfl
  ·have hke:k=a.length:=by omega
   have huu:a=b:=by rw [hke,List.take_length,e4,List.take_length] at htk;exact htk
   rw [decide_eq_true huu]
   (refine gGr ?_;intros)
   exact ret0 rfl rfl rfl
 ·have hne:¬ (a=b):=fun h=>e4 (by rw [h])
  rw [decide_eq_false hne]
  (refine gGo ?_;intros)
  (refine gGr ?_;intros)
  exact ret0 rfl rfl rfl
theorem gtr_iff (x y:Str):(Op.bytesLess x y=false∧x≠y)↔Lib.compareBytes y x<0:=by
 have h1:=bytesLess_iff x y
 have h2:=cmp_neg x y
 constructor
 ·rintro ⟨h3,h4⟩
  have h5:Lib.compareBytes x y≠0:=fun e=>h4 (cmp_eq e)
  have h6:¬ Lib.compareBytes x y<0:=fun h=>by rw [h1.2 h] at h3;cases h3
  omega
 ·intro h
  refine ⟨?_,fun e=>?_⟩
  ·cases hb:Op.bytesLess x y with
   | false=>rfl
   | true=>have:=h1.1 hb;omega
  ·subst e;rw [cmp_self] at h;omega
set_option maxHeartbeats 8000000 in
theorem order37_spec (t:Table) (k:Nat) (hv:validB t=true) (hk:k<t.cols.length):Spec Tryd.prog 32 [.agg t.row,.int .i64 (k:Nat)] [] (.sl (natRowsS (ordM t k)) false) []:=by
 have hcl:=colRows_len t.cols
 have hx:=colRows_get hk
 have hvn:=validB_n hv
 have eA:colK t k=t.cols[k].cells:=by simp [colK,hk]
 have lA:t.cols[k].cells.length=rowsN t:=valid_cells hv _ (List.getElem_mem hk)
 unfold ordM
 rw [eA,←lA]
 rw [←lA] at hvn
 generalize t.cols[k]=c at *
 have hl:=cellRows_len c.cells
 generalize hf:(fun i=>(cellI c.cells i).text)=f
 have hfi:∀ (i:Nat) (h:i<c.cells.length),(c.cells[i]).text=f i:=fun i h=>by rw [←hf];simp [cellI,h]
 refine gEn env Tryd.func32 fun Γ hN hK hML=>?_
 refine gA ?_
 (refine gE env hN (by kernel_rfl) ?_;conv=>whnf)
 (refine gGs ?_;intros)
 refine W.leG (mp:=[]) (bo:=[2]) (st':=⟨[(1,.int .i64 (k:Nat)),(2,.ro t.row 0),(4,.nils)],[],[]⟩)
  (LeG.mk' rfl rfl rfl ⟨⟨_,.refl _,rfl⟩,⟨_,.bp 2 0 3 t.row none rfl rfl (by simp) (.inr rfl),rfl⟩,⟨_,.refl _,rfl⟩,trivial⟩ .nil rfl rfl (by rw [hK];rfl)) ?_
 (refine gGo ?_;intros)
 refine rowAt_of (by simpa using hx) ?_
 conv=>whnf
 (refine gGo ?_;intros)
 refine W.loopG (fun m st=>∃ j:Nat,j≤c.cells.length∧m=c.cells.length-j∧st=⟨[(1,.int .i64 (k:Nat)),(2,.ro t.row 0),(5,.sl (natRowsS (sortK f (List.range j))) false),(14,.sl (cellRows c.cells) false),(15,.int .i64 (cellRows c.cells).length),(16,.int .i64 (j:Nat))],[],[]⟩)
  c.cells.length _ ⟨0,by omega,by omega,rfl⟩ ⟨[],[],[],LeG.mk' rfl rfl rfl ⟨⟨_,.refl _,rfl⟩,⟨_,.refl _,rfl⟩,⟨_,.norm _,rfl⟩,⟨_,.refl _,rfl⟩,⟨_,.refl _,rfl⟩,⟨_,.refl _,rfl⟩,trivial⟩ .nil rfl rfl (by rw [hK];rfl)⟩ ?_
 rintro m st ⟨j,hj,rfl,rfl⟩
 (refine gGo ?_;intros)
 refine boolRes_split (fun hb=>?_) (fun hb=>?_)<;>conv=>whnf
 ·have hlt:j<c.cells.length:=by omega
  have hg:=cellRows_get hlt
  have hsn:sortK f (List.range (j+1))=insK f (sortK f (List.range j)) j:=by rw [List.range_succ,sortK_snoc]
  have hol:(sortK f (List.range j)).length=j:=by rw [sortK_len,List.length_range]
  have hmem:∀ i∈sortK f (List.range j),i<j:=fun i hi=>List.mem_range.1 ((sortK_mem _ _ _).1 hi)
  have hfj:=hfi j hlt
  generalize sortK f (List.range j)=out at *
  have horl:=natRowsS_len out
  generalize hxj:c.cells[j]=x at *
  have hple:=placeK_le f out (f j) out.length
  (refine gGo ?_;intros)
  refine rowAt_of (by simpa using hg) ?_
  conv=>whnf
  (refine gGs ?_;intros)
  refine gA ?_
  (refine gE env hN (by kernel_rfl) ?_;conv=>whnf)
  (refine gGs ?_;intros)
  refine W.leG (mp:=[]) (bo:=[7]) (st':=⟨[(1,.int .i64 (k:Nat)),(2,.ro t.row 0),(5,.sl (natRowsS (out)) false),(14,.sl (cellRows c.cells) false),(15,.int .i64 (cellRows c.cells).length),(16,.int .i64 (j:Nat)),(6,.int .i64 (j:Nat)),(7,.ro x.row 0),(8,.int .i64 (out.length:Nat))],[],[]⟩)
   (LeG.mk' rfl rfl rfl (by repeat' (first | exact trivial | exact ⟨_,.refl _,rfl⟩ | exact ⟨_,.bp 7 0 2 x.row none rfl rfl (by simp) (.inr rfl),rfl⟩ | (rw [←horl];exact ⟨_,.refl _,rfl⟩) | apply And.intro)) .nil rfl rfl (by rw [hK];rfl)) ?_
  refine W.cut (fun s=>s=⟨[(1,.int .i64 (k:Nat)),(2,.ro t.row 0),(5,.sl (natRowsS (out)) false),(14,.sl (cellRows c.cells) false),(15,.int .i64 (cellRows c.cells).length),(16,.int .i64 (j:Nat)),(6,.int .i64 (j:Nat)),(8,.int .i64 (placeK f out (f j) out.length:Nat))],[],[]⟩) ?_ ?_
  ·(refine gGo ?_;intros)
   refine W.loopG (fun m st=>∃ i:Nat,i≤out.length∧placeK f out (f j) out.length=placeK f out (f j) i∧m=i∧st=⟨[(1,.int .i64 (k:Nat)),(2,.ro t.row 0),(5,.sl (natRowsS (out)) false),(14,.sl (cellRows c.cells) false),(15,.int .i64 (cellRows c.cells).length),(16,.int .i64 (j:Nat)),(6,.int .i64 (j:Nat)),(7,.ro x.row 0),(8,.int .i64 (i:Nat))],[],[]⟩)
    out.length _ ⟨out.length,by omega,rfl,rfl,rfl⟩ ⟨[],[],[],.mq .nil⟩ ?_
   rintro i st ⟨_,hi,hpl,rfl,rfl⟩
   cases i with
   | zero =>
    have h0:placeK f out (f j) 0=0:=rfl
    rw [hpl,h0]
    (refine gGo ?_;intros)
    exact ⟨_,rfl,.le (mp:=[]) (bo:=[]) (LeG.mq .nil)⟩
   | succ p =>
    have hpo:p<out.length:=by omega
    have hgo:=natL_get (rs:=out) hpo
    have hop:=hmem _ (List.getElem_mem hpo)
    have hgc:=cellRows_get (l:=c.cells) (i:=out[p]) (by omega)
    have hfp:=hfi out[p] (by omega)
    have hst:placeK f out (f j) (p+1)=if Lib.compareBytes (f j) (f out[p])<0 then placeK f out (f j) p else p+1:=by
     rw [placeK,List.getElem?_eq_getElem hpo]
    generalize c.cells[out[p]]'(by omega)=y at *
    generalize out[p]=o at *
    (refine gGo ?_;intros)
    refine rowAt_of (by simpa using hx) ?_
    conv=>whnf
    (refine gGo ?_;intros)
    refine rowAt_of (r:=[.int .i64 (o:Nat)]) (by rw [show ((p+1:Nat):Int)-1=(p:Nat) by omega,Int.toNat_natCast];exact hgo) ?_
    conv=>whnf
    (refine gGo ?_;intros)
    refine rowAt_of (by simpa using hgc) ?_
    conv=>whnf
    (refine gGo ?_;intros)
    by_cases hlt2:Lib.compareBytes (f j) (f o)<0
    ·have hgt:=(gtr_iff y.text x.text).2 (by rw [hfp,hfj];exact hlt2)
     rw [if_pos hlt2] at hst
     refine boolRes_true hgt ?_
     conv=>whnf
     (refine gGo ?_;intros)
     refine ⟨_,_,?_,⟨p,by omega,by rw [hpl,hst],rfl,rfl⟩,[],[],[],LeG.mk' rfl rfl rfl (by repeat' (first | exact trivial | exact ⟨_,.refl _,rfl⟩ | (rw [show ((p+1:Nat):Int)-1=(p:Nat) by omega];exact ⟨_,.refl _,rfl⟩) | apply And.intro)) .nil rfl rfl (by rw [hK];rfl)⟩
     omega
    ·have hgt:¬ (Op.bytesLess y.text x.text=false∧y.text≠x.text):=fun h=>hlt2 (by have:=(gtr_iff y.text x.text).1 h;rw [hfp,hfj] at this;exact this)
     rw [if_neg hlt2] at hst
     rw [hpl,hst]
     refine boolRes_false hgt ?_
     conv=>whnf
     (refine gGo ?_;intros)
     exact ⟨_,rfl,.le (mp:=[]) (bo:=[]) (LeG.mq .nil)⟩
  ·rintro s rfl
   have hs1:∀ p:Nat,List.drop (Int.toNat 0) (List.take ((p:Int)).toNat (natRowsS out))=natRowsS (out.take p):=fun p=>by
    rw [Int.toNat_natCast]
    unfold natRowsS natL intRows
    rw [←List.map_take,←List.map_take];rfl
   have hs2:∀ p:Nat,List.drop ((p:Int)).toNat (List.take (((natRowsS out).length:Nat):Int).toNat (natRowsS out))=natRowsS (out.drop p):=fun p=>by
    rw [Int.toNat_natCast,Int.toNat_natCast,List.take_length]
    unfold natRowsS natL intRows
    rw [←List.map_drop,←List.map_drop]
   have hins:insK f out j=out.take (placeK f out (f j) out.length)++j::out.drop (placeK f out (f j) out.length):=rfl
   have hsz:∀ l:List Nat,rowsSz (natRowsS l) 1:=fun l=>by
    unfold rowsSz
    intro r hr
    obtain ⟨a,_,rfl⟩:=List.mem_map.1 hr
    rfl
   have hAl:(out.take (placeK f out (f j) out.length)).length=placeK f out (f j) out.length:=by rw [List.length_take];omega
   have hBl:(out.drop (placeK f out (f j) out.length)).length=j-placeK f out (f j) out.length:=by rw [List.length_drop,hol]
   generalize placeK f out (f j) out.length=pl at *
   (refine gGo ?_;intros)
   refine And.intro (hsz _) ?_
   rw [hs1]
   generalize out.take pl=A at *
   generalize hB:out.drop pl=B at *
   have hA2:=natRowsS_len A
   have hB2:=natRowsS_len B
   conv=>whnf
   (refine gGo ?_;intros)
   refine ⟨hsz _,fitN (n:=(natRowsS A).length) (b:=8) (by omega) (by omega),?_⟩
   refine Or.inl ?_
   conv=>whnf
   (refine gGo ?_;intros)
   refine ⟨⟨rowsSz_cons rfl rowsSz_nil,rfl⟩,fitN (n:=(natRowsS A).length+1) (b:=8) (by omega) (by omega),.inl ⟨rfl,rfl,?_⟩⟩
   conv=>whnf
   (refine gGo ?_;intros)
   refine And.intro (hsz _) ?_
   rw [hs2,hB]
   conv=>whnf
   (refine gGo ?_;intros)
   refine ⟨⟨hsz _,by simp⟩,fitN (n:=(natRowsS A).length+1+(natRowsS B).length) (b:=8) (by omega) (by omega),.inl ⟨rfl,rfl,?_⟩⟩
   conv=>whnf
   (refine gGo ?_;intros)
   have hrn:((natRowsS A++[[.int .i64 (j:Nat)]])++natRowsS B)=natRowsS (A++j::B):=by simp [natRowsS,natL,intRows]
   refine ⟨_,_,?_,⟨j+1,by omega,rfl,rfl⟩,[],[49,51],[],LeG.mk' rfl rfl rfl (by repeat' (first | exact trivial | exact ⟨_,.refl _,rfl⟩ | (rw [hsn,hins,←hrn];exact ⟨_,Lent.whole rfl rfl (by simp;omega) rfl (by first | exact .inl rfl | exact .inr rfl),rfl⟩) | apply And.intro)) .nil rfl rfl (by rw [hK];rfl)⟩
   omega
 ·have hje:j=c.cells.length:=by omega
  rw [hje]
  (refine gGr ?_;intros)
  exact ret0 rfl rfl rfl
set_option maxHeartbeats 4000000 in
theorem same37_spec (a b:Delta):Spec Tryd.prog 16 [.agg a.row,.agg b.row] [] (.bool (decide (a=b))) []:=by
 have hla:=lineRows_len a.add
 have hlb:=lineRows_len b.add
 have sp:=sameRow37_spec a.drop b.drop
 have hde:decide (a=b)=(decide (a.drop=b.drop)&&decide (a.add=b.add)):=by
  cases a;cases b
  simp only [Delta.mk.injEq,Bool.decide_and]
 rw [hde]
 refine gEn env Tryd.func16 fun Γ hN hK hML=>?_
 by_cases hd:a.drop=b.drop
 ·rw [decide_eq_true hd] at sp
  rw [decide_eq_true hd,Bool.true_and]
  by_cases e4:a.add.length=b.add.length
  ·(refine gGo ?_;intros)
   (refine gPC (sp) ?_;conv=>whnf)
   (refine gGo ?_;intros)
   refine W.loopG (fun n st=>∃ k:Nat,k≤a.add.length∧a.add.take k=b.add.take k∧n=a.add.length-k∧st=⟨[(3,.bp 3 0),(23,.sl (lineRows a.add) false),(24,.int .i64 (lineRows a.add).length),(25,.int .i64 k)],[(3,[.rows 2 [b.row] none])],[3]⟩)
    a.add.length _ ⟨0,by omega,rfl,by omega,rfl⟩ ⟨[(3,3)],[2],[],LeG.mq (.ci 3 .nil)⟩ ?_
   rintro n st ⟨k,hk,htk,rfl,rfl⟩
   (refine gGo ?_;intros)
   refine boolRes_split (fun hb=>?_) (fun hb=>?_)<;>conv=>whnf
   ·have hlt:k<a.add.length:=by omega
    have hlt2:k<b.add.length:=by omega
    have hg1:=lineRows_get hlt
    have hg2:=lineRows_get hlt2
    have htk2:a.add[k]=b.add[k]→a.add.take (k+1)=b.add.take (k+1):=take_snoc htk hlt hlt2
    have hneq:a.add[k]≠b.add[k]→¬ (a.add=b.add):=fun h1 h2=>h1 (by simp only [h2])
    have sp2:=sameRow37_spec a.add[k] b.add[k]
    generalize a.add[k]=x at *
    generalize b.add[k]=y at *
    (refine gGo ?_;intros)
    refine rowAt_of (by simpa using hg1) ?_
    conv=>whnf
    (refine gGo ?_;intros)
    refine rowAt_of (by simpa using hg2) ?_
    conv=>whnf
    (refine gGo ?_;intros)
    by_cases e6:x=y
    ·rw [decide_eq_true e6] at sp2
     (refine gPC (sp2) ?_;conv=>whnf)
     (refine gGo ?_;intros)
     refine ⟨_,_,?_,⟨k+1,by omega,htk2 e6,rfl,rfl⟩,⟨[(3,3)],[],[],.mq (.ci 3 .nil)⟩⟩
     omega
    ·rw [decide_eq_false e6] at sp2
     rw [decide_eq_false (hneq e6)]
     (refine gPC (sp2) ?_;conv=>whnf)
     (refine gGr ?_;intros)
     exact ret0 rfl rfl rfl
   ·have hke:k=a.add.length:=by omega
    have huu:a.add=b.add:=by rw [hke,List.take_length,e4,List.take_length] at htk;exact htk
    rw [decide_eq_true huu]
    (refine gGr ?_;intros)
    exact ret0 rfl rfl rfl
  ·have hne:¬ (a.add=b.add):=fun h=>e4 (by rw [h])
   rw [decide_eq_false hne]
   (refine gGo ?_;intros)
   (refine gPC (sp) ?_;conv=>whnf)
   (refine gGo ?_;intros)
   (refine gGr ?_;intros)
   exact ret0 rfl rfl rfl
 ·rw [decide_eq_false hd] at sp
  rw [decide_eq_false hd,Bool.false_and]
  (refine gGo ?_;intros)
  (refine gPC (sp) ?_;conv=>whnf)
  (refine gGo ?_;intros)
  (refine gGr ?_;intros)
  exact ret0 rfl rfl rfl
def missM (a b:Table) (k:Nat):List Nat:=(ordM a k).filter fun r=>diffB a b k (cellI (colK a k) r).text r
theorem natRowsS_snoc (l:List Nat) (x:Nat):natRowsS (l++[x])=natRowsS l++[[.int .i64 (x:Nat)]]:=by simp [natRowsS,natL,intRows]
theorem natRowsS_get {l:List Nat}{i:Nat}(h:i<l.length):(natRowsS l)[i]?=some [.int .i64 (l[i]:Nat)]:=natL_get h
set_option maxHeartbeats 8000000 in
theorem missing37_spec (a b:Table) (k:Nat) (va:validB a=true) (vb:validB b=true) (hka:k<a.cols.length) (hkb:k<b.cols.length):Spec Tryd.prog 22 [.agg a.row,.agg b.row,.int .i64 (k:Nat)] [] (.sl (natRowsS (missM a b k)) false) []:=by
 have sp1:=order37_spec a k va hka
 have hperm:∀ i∈ordM a k,i<rowsN a:=fun i hi=>ordM_lt hi
 have hol:=ordM_len a k
 have hvn:=validB_n va
 have hvm:=validB_n vb
 have eA:colK a k=a.cols[k].cells:=by simp [colK,hka]
 have lA:a.cols[k].cells.length=rowsN a:=valid_cells va _ (List.getElem_mem hka)
 have hcla:=colRows_len a.cols
 have hxa:=colRows_get hka
 have tB:(textsOf (colK b k)).length=rowsN b:=by
  have:colK b k=b.cols[k].cells:=by simp [colK,hkb]
  simp [textsOf,this,valid_cells vb _ (List.getElem_mem hkb)]
 have f64a:a.cols.length≤4294967295:=by simp only [validB,headB,Bool.and_eq_true,decide_eq_true_eq] at va;omega
 have f64b:b.cols.length≤4294967295:=by simp only [validB,headB,Bool.and_eq_true,decide_eq_true_eq] at vb;omega
 have rowA:∀ i,i<rowsN a→Spec Tryd.prog 23 [.agg a.row,.int .i64 (i:Nat)] [] (.sl (cellRows (rowM a i)) false) []:=fun i hi=>row37_spec a i (fun c hc=>by rw [valid_cells va c hc];exact hi) f64a
 have rowB:∀ i,i<rowsN b→Spec Tryd.prog 23 [.agg b.row,.int .i64 (i:Nat)] [] (.sl (cellRows (rowM b i)) false) []:=fun i hi=>row37_spec b i (fun c hc=>by rw [valid_cells vb c hc];exact hi) f64b
 have spF:=fun s=>find37_spec b k s hkb
 have hdf:∀ r,diffB a b k (cellI (colK a k) r).text r=match ixS (cellI (colK a k) r).text (textsOf (colK b k)) with | none=>true | some j=>decide (rowM a r≠rowM b j):=fun r=>rfl
 unfold missM
 generalize hO:ordM a k=O at *
 generalize hpp:(fun r=>diffB a b k (cellI (colK a k) r).text r)=p at *
 have hpr:∀ r,p r=match ixS (cellI (colK a k) r).text (textsOf (colK b k)) with | none=>true | some j=>decide (rowM a r≠rowM b j):=fun r=>by rw [←hpp];rfl
 have hOl:=natRowsS_len O
 refine gEn env Tryd.func22 fun Γ hN hK hML=>?_
 refine gA ?_
 (refine gE env hN (by kernel_rfl) ?_;conv=>whnf)
 (refine gGs ?_;intros)
 refine W.leG (mp:=[]) (bo:=[3,4]) (st':=⟨[(2,.int .i64 (k:Nat)),(3,.ro a.row 0),(4,.ro b.row 0),(6,.nils)],[],[]⟩)
  (LeG.mk' rfl rfl rfl ⟨⟨_,.refl _,rfl⟩,⟨_,.bp 3 0 3 a.row none rfl rfl (by simp) (.inr rfl),rfl⟩,⟨_,.bp 4 0 3 b.row none rfl rfl (by simp) (.inr rfl),rfl⟩,⟨_,.refl _,rfl⟩,trivial⟩ .nil rfl rfl (by rw [hK];rfl)) ?_
 (refine gGo ?_;intros)
 (refine gPC (sp1) ?_;conv=>whnf)
 (refine gGo ?_;intros)
 refine W.ownNil 7 61 1 rfl rfl ?_
 refine W.loopG (fun m st=>∃ j:Nat,j≤O.length∧m=O.length-j∧st=⟨[(2,.int .i64 (k:Nat)),(3,.ro a.row 0),(4,.ro b.row 0),(7,.osl 61 0 0 ((O.take j).filter p).length ((O.take j).filter p).length),(13,.sl (natRowsS O) false),(14,.int .i64 (natRowsS O).length),(15,.int .i64 (j:Nat))],[(61,[.rows 1 (natRowsS ((O.take j).filter p)) (some [])])],[61]⟩)
  O.length _ ⟨0,by omega,by omega,rfl⟩ ⟨[(61,61)],[],[],.mq (.ci 61 .nil)⟩ ?_
 rintro m st ⟨j,hj,rfl,rfl⟩
 (refine gGo ?_;intros)
 refine boolRes_split (fun hb=>?_) (fun hb=>?_)<;>conv=>whnf
 ·have hlt:j<O.length:=by omega
  have hg:=natRowsS_get hlt
  have hro:=hperm _ (List.getElem_mem hlt)
  have hsn:(O.take (j+1)).filter p=if p O[j]=true then (O.take j).filter p++[O[j]] else (O.take j).filter p:=by
   rw [List.take_succ_eq_append_getElem hlt,List.filter_append]
   by_cases hp:p O[j]=true<;>simp [hp]
  have hgc:=cellRows_get (l:=a.cols[k].cells) (i:=O[j]) (by omega)
  have hpr1:=hpr O[j]
  have hci:cellI (colK a k) O[j]=a.cols[k].cells[O[j]]'(by omega):=by rw [eA];simp [cellI,show O[j]<a.cols[k].cells.length by omega]
  rw [hci] at hpr1
  have hfl:=natRowsS_len ((O.take j).filter p)
  have hfl2:((O.take j).filter p).length≤j:=Nat.le_trans (List.length_filter_le _ _) (by rw [List.length_take];omega)
  have sA:=rowA O[j] hro
  generalize a.cols[k].cells[O[j]]'(by omega)=x at *
  generalize a.cols[k]=c at *
  generalize O[j]=r at *
  have sF:=spF x.text
  unfold find37M at sF
  (refine gGo ?_;intros)
  refine rowAt_of (by simpa using hg) ?_
  conv=>whnf
  (refine gGo ?_;intros)
  refine rowAt_of (by simpa using hxa) ?_
  conv=>whnf
  (refine gGo ?_;intros)
  refine rowAt_of (by simpa using hgc) ?_
  conv=>whnf
  (refine gGo ?_;intros)
  cases hix:ixS x.text (textsOf (colK b k)) with
  | none =>
   rw [hix] at sF hpr1
   have hp:p r=true:=hpr1
   dsimp only at sF
   (refine gPC (sF) ?_;conv=>whnf)
   (refine gGo ?_;intros)
   refine ⟨⟨rowsSz_cons rfl rowsSz_nil,hfl.symm⟩,fitN (n:=((O.take j).filter p).length+1) (b:=8) (by omega) (by omega),.inl ⟨rfl,rfl,?_⟩⟩
   conv=>whnf
   (refine gGo ?_;intros)
   refine ⟨_,_,?_,⟨j+1,by omega,rfl,rfl⟩,[(61,61)],[],[],LeG.mk' rfl rfl rfl (by repeat' (first | exact trivial | exact ⟨_,.refl _,rfl⟩ | (rw [hsn,if_pos hp,List.length_append];exact ⟨_,.refl _,rfl⟩) | apply And.intro)) (.cons 61 rfl rfl (.refl _) (by rw [hsn,if_pos hp,natRowsS_snoc];rfl) .nil) rfl rfl (by rw [hK];rfl)⟩
   omega
  | some i =>
   rw [hix] at sF hpr1
   have hib:i<rowsN b:=by have:=(List.getElem?_eq_some_iff.1 (ixS_some hix)).1;omega
   have sB:=rowB i hib
   have sR:=sameRow37_spec (rowM a r) (rowM b i)
   dsimp only at sF hpr1
   (refine gPC (sF) ?_;conv=>whnf)
   (refine gGo ?_;intros)
   (refine gPC (sA) ?_;conv=>whnf)
   (refine gGo ?_;intros)
   (refine gPC (sB) ?_;conv=>whnf)
   (refine gGo ?_;intros)
   by_cases he:rowM a r=rowM b i
   ·rw [decide_eq_true he] at sR
    have hp:¬ p r=true:=by rw [hpr1];simp [he]
    (refine gPC (sR) ?_;conv=>whnf)
    (refine gGo ?_;intros)
    refine ⟨_,_,?_,⟨j+1,by omega,rfl,rfl⟩,[(61,61)],[],[],LeG.mk' rfl rfl rfl (by repeat' (first | exact trivial | exact ⟨_,.refl _,rfl⟩ | (rw [hsn,if_neg hp];exact ⟨_,.refl _,rfl⟩) | apply And.intro)) (.cons 61 rfl rfl (.refl _) (by rw [hsn,if_neg hp];rfl) .nil) rfl rfl (by rw [hK];rfl)⟩
    omega
   ·rw [decide_eq_false he] at sR
    have hp:p r=true:=by rw [hpr1];simp [he]
    (refine gPC (sR) ?_;conv=>whnf)
    (refine gGo ?_;intros)
    refine ⟨⟨rowsSz_cons rfl rowsSz_nil,hfl.symm⟩,fitN (n:=((O.take j).filter p).length+1) (b:=8) (by omega) (by omega),.inl ⟨rfl,rfl,?_⟩⟩
    conv=>whnf
    (refine gGo ?_;intros)
    refine ⟨_,_,?_,⟨j+1,by omega,rfl,rfl⟩,[(61,61)],[],[],LeG.mk' rfl rfl rfl (by repeat' (first | exact trivial | exact ⟨_,.refl _,rfl⟩ | (rw [hsn,if_pos hp,List.length_append];exact ⟨_,.refl _,rfl⟩) | apply And.intro)) (.cons 61 rfl rfl (.refl _) (by rw [hsn,if_pos hp,natRowsS_snoc];rfl) .nil) rfl rfl (by rw [hK];rfl)⟩
    omega
 ·have hje:j=O.length:=by omega
  have hfl:=natRowsS_len (O.filter p)
  rw [hje,List.take_length]
  refine W.leG (mp:=[]) (bo:=[61]) (st':=⟨[(7,.sl (natRowsS (O.filter p)) false),(16,.bool false)],[],[]⟩) (LeG.mk' rfl rfl rfl ⟨⟨_,Lent.whole rfl rfl hfl.symm rfl (.inl rfl),rfl⟩,⟨_,.refl _,rfl⟩,trivial⟩ .nil rfl rfl (by rw [hK];rfl)) ?_
  (refine gGr ?_;intros)
  exact ret0 rfl rfl rfl
theorem ordM_asc {t:Table}{k:Nat}(hv:validB t=true) (hk:k<t.cols.length) (hkey:keyB (colK t k)=true):AscK (fun i=>(cellI (colK t k) i).text) (ordM t k):=by
 have eA:colK t k=t.cols[k].cells:=by simp [colK,hk]
 have lA:(colK t k).length=rowsN t:=by rw [eA];exact valid_cells hv _ (List.getElem_mem hk)
 obtain ⟨nA,dA⟩:=(keyB_iff _).1 hkey
 refine sortK_asc ?_
 unfold DistK
 rw [List.pairwise_iff_getElem]
 intro i j hi hj hij e
 simp only [List.getElem_range] at e
 rw [List.length_range] at hi hj
 have:=nodup_get dA (i:=i) (j:=j) (by omega) (by omega) e
 omega
theorem miss_drop {a b:Table}{k:Nat}(hv:validB a=true) (hk:k<a.cols.length) (hkey:keyB (colK a k)=true):(missM a b k).map (cellI (colK a k))=(diffM a b k).drop:=by
 have eA:colK a k=a.cols[k].cells:=by simp [colK,hk]
 have lA:(colK a k).length=rowsN a:=by rw [eA];exact valid_cells hv _ (List.getElem_mem hk)
 obtain ⟨nA,dA⟩:=(keyB_iff _).1 hkey
 have hr:Seen (rowsN a) (List.range (rowsN a)):=⟨List.nodup_range,fun i hi=>List.mem_range.1 hi⟩
 refine ascK_ext (key:=Cell.text) ?_ ?_ fun t=>?_
 ·unfold AscK missM
  rw [List.pairwise_map]
  exact (ordM_asc hv hk hkey).sublist List.filter_sublist
 ·unfold diffM dropOf
  rw [lA]
  exact sortK_asc (filter_dist hr (fun i j hi hj e=>nodup_get dA (by omega) (by omega) e) _)
 ·unfold diffM dropOf missM
  rw [sortK_mem,lA]
  simp only [List.mem_map,List.mem_filter,(ordM_perm a k).mem_iff]
theorem miss_add {a b:Table}{k:Nat}(hv:validB b=true) (hk:k<b.cols.length) (hkey:keyB (colK b k)=true):(missM b a k).map (rowM b)=(diffM a b k).add:=by
 have eA:colK b k=b.cols[k].cells:=by simp [colK,hk]
 have lA:(colK b k).length=rowsN b:=by rw [eA];exact valid_cells hv _ (List.getElem_mem hk)
 obtain ⟨nA,dA⟩:=(keyB_iff _).1 hkey
 have hr:Seen (rowsN b) (List.range (rowsN b)):=⟨List.nodup_range,fun i hi=>List.mem_range.1 hi⟩
 refine ascK_ext (key:=keyAt k) ?_ ?_ fun t=>?_
 ·unfold AscK missM
  rw [List.pairwise_map]
  have h1:=(ordM_asc hv hk hkey).sublist (List.filter_sublist (p:=fun r=>diffB b a k (cellI (colK b k) r).text r))
  refine h1.imp fun {i j} h=>?_
  rw [keyAt_row hk,keyAt_row hk]
  exact h
 ·unfold diffM addOf
  rw [lA]
  exact sortK_asc (filter_dist hr (fun i j hi hj e=>nodup_get dA (by omega) (by omega) (by rw [keyAt_row hk,keyAt_row hk] at e;exact e)) _)
 ·unfold diffM addOf missM
  rw [sortK_mem,lA]
  simp only [List.mem_map,List.mem_filter,(ordM_perm b k).mem_iff]
theorem of_check {a b:Table}{key:Int}(va:validB a=true) (vb:validB b=true) (hl:a.cols.length=b.cols.length):checkM key [a,b]=if check37M a key=0 then check37M b key else check37M a key:=by
 have hb:inB key a=inB key b:=by unfold inB;rw [hl]
 unfold checkM check37M
 rw [va,vb]
 simp only [List.all_cons,List.all_nil,Bool.and_true,if_true,hb]
 cases inB key b<;>cases keyB (colK a key.toNat)<;>cases keyB (colK b key.toNat)<;>simp
theorem check37_zero {t:Table}{key:Int}(h:check37M t key=0):∃ k:Nat,key=k∧k<t.cols.length∧keyB (colK t k)=true∧validB t=true:=by
 unfold check37M at h
 split at h
 ·rename_i hv
  split at h
  ·rename_i h1
   unfold inB at h1
   have h1:=of_decide_eq_true h1
   split at h
   ·rename_i h2
    exact ⟨key.toNat,by omega,by omega,h2,hv⟩
   ·simp at h
  ·simp at h
 ·simp at h
end Go.Sx.Sp
