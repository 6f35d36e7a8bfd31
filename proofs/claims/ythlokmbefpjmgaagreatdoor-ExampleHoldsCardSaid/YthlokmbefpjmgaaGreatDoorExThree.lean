/- Views as the document tells them, and which tables contain which rows. -/
import Derived.Test.YthlokmbefpjmgaaGreatDoorExTwo
import Derived.Test.YthlokmbefpjmgaaGreatDoorRtOne
import Derived.Test.YthlokmbefpjmgaaGreatDoorJSix
import Derived.Test.YthlokmbefpjmgaaGreatDoorSxFive
import Derived.Test.YthlokmbefpjmgaaGreatDoorSxFour
set_option linter.unusedVariables false
set_option linter.unusedSimpArgs false
namespace Go.Sx.Sp
open Go Go.Sx Go.Proofs
attribute [local irreducible] GoodW famL
structure Flt where
 r:Rf
 kind:Int
 text:Str
 deriving DecidableEq
structure Vw where
 path:Pth
 fs:List Flt
 cs:List Rf
def Flt.row (f:Flt):List V:=[.int .i64 f.r.t,.int .i64 f.r.c,.int .i64 f.kind,.str f.text]
def fltRows (l:List Flt):List (List V):=l.map Flt.row
def Vw.row (v:Vw):List V:=[.int .i64 v.path.start,.sl (stpRows v.path.steps) false,.sl (fltRows v.fs) false,.sl (rfRows v.cs) false]
theorem fltRows_len (l:List Flt):(fltRows l).length=l.length:=by simp [fltRows]
theorem fltRows_get {l:List Flt}{i:Nat}(h:i<l.length):(fltRows l)[i]?=some l[i].row:=by simp [fltRows,h]
def tabsI (p:Pth):List Int:=befT p p.steps.length
def hasB (l:List Table) (p:Pth) (r:Rf):Bool:=(getC l r.t r.c).isSome&&decide (r.t∈tabsI p)
def properB (f:Flt):Bool:=if f.kind=1∨f.kind=2 then decide (f.text.length≤1024) else if f.kind=3∨f.kind=4 then decide (f.text=[]) else false
def keepsB (f:Flt) (c:Cell):Bool:=if f.kind=1 then !c.null&&decide (c.text=f.text) else if f.kind=2 then !c.null&&!decide (c.text=f.text) else if f.kind=3 then c.null else !c.null
set_option maxHeartbeats 4000000 in
theorem keeps34_spec (f:Flt) (c:Cell):Spec Tryz.prog 54 [.agg f.row,.agg c.row] [] (.bool (keepsB f c)) []:=by
 unfold keepsB;obtain ⟨nul,tx⟩:=c;obtain ⟨r0,kd,ft⟩:=f;dsimp only;by_cases h1:kd=1
 ·rw [if_pos h1];cases nul with
  | true =>
   refine gEn env Tryz.func54 fun Γ hN hK hML=>?_;exact gR
  | false =>
   by_cases hx:tx=ft
   ·subst hx;rw [decide_eq_true rfl];refine gEn env Tryz.func54 fun Γ hN hK hML=>?_;exact gR
   ·rw [decide_eq_false hx];refine gEn env Tryz.func54 fun Γ hN hK hML=>?_;exact gR
 rw [if_neg h1];by_cases h2:kd=2
 ·rw [if_pos h2];cases nul with
  | true =>
   refine gEn env Tryz.func54 fun Γ hN hK hML=>?_;exact gR
  | false =>
   by_cases hx:tx=ft
   ·subst hx;rw [decide_eq_true rfl];refine gEn env Tryz.func54 fun Γ hN hK hML=>?_;refine gGo ?_;refine gL (fun h=>h rfl) ?_;(conv=>whnf);exact gR
   ·rw [decide_eq_false hx];refine gEn env Tryz.func54 fun Γ hN hK hML=>?_;exact gR
 rw [if_neg h2];by_cases h3:kd=3
 ·rw [if_pos h3];cases nul with
  | true =>
   refine gEn env Tryz.func54 fun Γ hN hK hML=>?_;exact gR
  | false =>
   refine gEn env Tryz.func54 fun Γ hN hK hML=>?_;exact gR
 rw [if_neg h3];have h4:¬ (1=kd):=fun h=>h1 h.symm;cases nul with
 | true =>
  refine gEn env Tryz.func54 fun Γ hN hK hML=>?_;exact gR
 | false =>
  refine gEn env Tryz.func54 fun Γ hN hK hML=>?_;exact gR
theorem has34_spec (l:List Table) (p:Pth) (r:Rf) (hl:p.steps.length≤100):Spec Tryz.prog 109 [.sl (tblRows l) false,.agg p.row,.agg r.row] [] (.bool (hasB l p r)) []:=by
 have sp1:=get3_spec l r.t r.c;have sp2:=place_spec p p.steps.length r.t (Nat.le_refl _) hl;have hsl:=stpRows_len p.steps;have hpl:decide (0≤placeZ p p.steps.length r.t)=decide (r.t∈tabsI p):=by
  unfold placeZ tabsI;cases hx:ixI r.t (befT p p.steps.length) with
  | none =>
   have:r.t∉befT p p.steps.length:=fun hm=>by
    have:=(ixI_none.1 hx);exact this hm
   simp [this]
  | some i =>
   have:r.t∈befT p p.steps.length:=List.mem_of_getElem? (ixI_at hx);simp [this]
 unfold hasB;rw [←hpl];generalize (getC l r.t r.c).getD Column.zero=c0 at *;generalize placeZ p p.steps.length r.t=z at *;rw [←hsl] at sp2;cases hb:(getC l r.t r.c).isSome with
 | false =>
  rw [hb] at sp1;refine gEn env Tryz.func109 fun Γ hN hK hML=>?_;exact gR
 | true =>
  rw [hb] at sp1;by_cases hz:0≤z
  ·rw [decide_eq_true hz];refine gEn env Tryz.func109 fun Γ hN hK hML=>?_;exact gR
  ·rw [decide_eq_false hz];refine gEn env Tryz.func109 fun Γ hN hK hML=>?_;exact gR
def nhF (l:List Table) (p:Pth) (f:Flt):Bool:=!hasB l p f.r
def nhR (l:List Table) (p:Pth) (r:Rf):Bool:=!hasB l p r
def npB (f:Flt):Bool:=!properB f
def validV (l:List Table) (v:Vw):Int:=
 if validE l v.path=0 then
  (if v.fs.length≤8∧v.cs.length≤64 then
   (if (v.fs.any (nhF l v.path))=false∧(v.cs.any (nhR l v.path))=false then
    (if (v.fs.any npB)=false then 0 else 2)
   else 5)
  else 3)
 else validE l v.path
def cell0:Cell:=⟨false,[]⟩
def dropB (f:Flt) (cs:List Cell) (i:Nat) (row:List Nat):Bool:=!keepsB f (cs.getD (row.getD i 0) cell0)
def keepR (f:Flt) (cs:List Cell) (i:Nat) (R:List (List Nat)):List (List Nat):=R.filter fun x=>!dropB f cs i x
def colC (l:List Table) (r:Rf):Column:=(getC l r.t r.c).getD Column.zero
def plcI (p:Pth) (t:Int):Nat:=placeI (tabsI p) t
theorem tabsI_len (p:Pth):(tabsI p).length=p.steps.length+1:=befT_len p (Nat.le_refl _)
theorem tabN_bef (l:List Table) (p:Pth) {i:Nat}(h:i≤p.steps.length):tabN l p i=tabOf l ((tabsI p).getD i 0):=by
 cases i with
 | zero=>rfl
 | succ q =>
  have hq:q<p.steps.length:=by omega
  have:(tabsI p).getD (q+1) 0=(stpAt p q).tt:=by
   unfold tabsI befT stpAt;rw [List.take_length];simp [hq]
  rw [this];rfl
theorem bef_nodup {l:List Table}{p:Pth}(h:validE l p=0):∀ j,j≤p.steps.length→(befT p j).Nodup
 | 0,_=>by simp [befT]
 | j+1,hj=>by
  have hjl:j<p.steps.length:=by omega
  have hsf:=pathB_step (valid_path h).2.2 hjl;rw [befT_snoc p hjl,List.nodup_append];refine ⟨bef_nodup h j (by omega),by simp,fun a ha b hb=>?_⟩;rw [List.mem_singleton.1 hb];intro e;have:=hsf.new;rw [show stpAt p j=p.steps[j] by simp [stpAt,hjl]] at this;exact this (e ▸ ha)
theorem has_facts {l:List Table}{p:Pth}(h:validE l p=0) {r:Rf}(hr:hasB l p r=true):∃ i,ixI r.t (tabsI p)=some i∧plcI p r.t=i∧i≤p.steps.length∧(tabsI p)[i]?=some r.t∧tabOf l r.t=tabN l p i∧∃ hc:r.c.toNat<(tabN l p i).cols.length,0≤r.c∧colC l r=(tabN l p i).cols[r.c.toNat]∧(colC l r).cells.length=rowsN (tabN l p i):=by
 unfold hasB at hr;rw [Bool.and_eq_true,decide_eq_true_iff] at hr;cases hx:ixI r.t (tabsI p) with
 | none=>exact absurd hr.2 (ixI_none.1 hx)
 | some i =>
  have hi:=ixI_lt hx;rw [tabsI_len] at hi;have hat:=ixI_at hx;have htn:tabOf l r.t=tabN l p i:=by
   rw [tabN_bef l p (by omega),List.getD_eq_getElem?_getD,hat];rfl
  have hgc:=getC_some hr.1;rw [htn] at hgc;have hcl:r.c.toNat<(tabN l p i).cols.length:=by omega
  have hcc:colC l r=(tabN l p i).cols[r.c.toNat]:=by
   unfold colC;have h1:=hr.1;unfold getC at h1 ⊢;unfold tabOf at htn;cases hf:findT l r.t with
   | none=>rw [hf] at h1;simp at h1
   | some tb =>
    rw [hf] at htn;simp only [Option.getD_some] at htn;subst htn;simp only;rw [if_pos ⟨hgc.1,by omega⟩,List.getElem?_eq_getElem hcl];rfl
  refine ⟨i,rfl,by unfold plcI placeI;rw [hx];rfl,by omega,hat,htn,hcl,hgc.1,hcc,?_⟩;rw [hcc];exact (validB_rows (tabN_ok h (by omega))).2 _ (List.getElem_mem hcl)
def keptR (l:List Table) (v:Vw) (k:Nat):List (List Nat):=(v.fs.take k).foldl (fun R f=>keepR f (colC l f.r).cells (plcI v.path f.r.t) R) (rowsL l v.path)
theorem keptR_succ (l:List Table) (v:Vw) {k:Nat}(h:k<v.fs.length):keptR l v (k+1)=keepR v.fs[k] (colC l v.fs[k].r).cells (plcI v.path v.fs[k].r.t) (keptR l v k):=by
 unfold keptR;rw [List.take_succ_eq_append_getElem h,List.foldl_append];rfl
theorem validV_facts {l:List Table}{v:Vw}(h:validV l v=0):validE l v.path=0∧v.fs.length≤8∧v.cs.length≤64∧(∀ f∈v.fs,hasB l v.path f.r=true∧properB f=true)∧∀ r∈v.cs,hasB l v.path r=true:=by
 unfold validV at h;split at h
 ·rename_i h0;split at h
  ·rename_i h1;split at h
   ·rename_i h2;split at h
    ·rename_i h3;refine ⟨h0,h1.1,h1.2,fun f hf=>⟨?_,?_⟩,fun r hr=>?_⟩
     ·have:=List.any_eq_false.1 h2.1 f hf;simpa [nhF] using this
     ·have:=List.any_eq_false.1 h3 f hf;simpa [npB] using this
     ·have:=List.any_eq_false.1 h2.2 r hr;simpa [nhR] using this
    ·cases h
   ·cases h
  ·cases h
 ·rename_i h0;exact absurd h h0
def keptE (l:List Table) (v:Vw):Int:=if validV l v=0 then planE l v.path else validV l v
def shownC (l:List Table) (v:Vw) (K:List (List Nat)) (r:Rf):Column:=⟨(colC l r).name,K.map fun row=>(colC l r).cells.getD (row.getD (plcI v.path r.t) 0) cell0⟩
def shownT (l:List Table) (v:Vw):Table:=⟨(tabOf l v.path.start).id,(tabOf l v.path.start).name,v.cs.map (shownC l v (keptR l v v.fs.length))⟩
def evalV (l:List Table) (v:Vw):Table×Int:=if keptE l v=0 then (shownT l v,0) else (Table.zero,keptE l v)
theorem any_drop {α:Type}(p:α→Bool) (l:List α) {k:Nat}(h:k<l.length):(l.drop k).any p=(p l[k]||(l.drop (k+1)).any p):=by
 rw [List.drop_eq_getElem_cons h,List.any_cons]
set_option maxHeartbeats 16000000 in
theorem valid34_spec (l:List Table) (v:Vw):Spec Tryz.prog 52 [.sl (tblRows l) false,.agg v.row] [] (.int .i64 (validV l v)) []:=by
 have sp1:=valid31_spec l v.path;have hfl:=fltRows_len v.fs;have hrl:=rfRows_len v.cs;unfold validV;refine gEn env Tryz.func52 fun Γ hN hK hML=>?_;refine gA ?_;(refine gE env hN (by kernel_rfl) ?_;conv=>whnf);refine gGs ?_;refine W.leG (mp:=[]) (bo:=[3]) (st':=⟨[(0,.sl (tblRows l) false),(3,.ro v.row 0)],[],[]⟩)
  (LeG.mk' rfl rfl rfl ⟨⟨_,.refl _,rfl⟩,⟨_,.bp 3 0 4 v.row none rfl rfl (by simp [Vw.row]) (.inr rfl),rfl⟩,trivial⟩ .nil rfl rfl (by rw [hK];rfl)) ?_
 by_cases h:validE l v.path=0
 ·rw [if_pos h];rw [h] at sp1;have hl1:v.path.steps.length≤100:=by have:=(valid_path h).2.1;omega
  by_cases h8:v.fs.length≤8∧v.cs.length≤64
  ·rw [if_pos h8];(refine g ?_;intros);refine W.leG (mp:=[]) (bo:=[]) (st':=⟨[(0,.sl (tblRows l) false),(3,.ro v.row 0),(30,.sl (fltRows v.fs) false),(31,.int .i64 (fltRows v.fs).length),(32,.int .i64 (0:Nat))],[],[]⟩)
    (LeG.mq .nil) ?_
   refine W.loopG (fun m st=>∃ k:Nat,k≤v.fs.length∧v.fs.any (nhF l v.path)=(v.fs.drop k).any (nhF l v.path)∧m=v.fs.length-k∧st=⟨[(0,.sl (tblRows l) false),(3,.ro v.row 0),(30,.sl (fltRows v.fs) false),(31,.int .i64 (fltRows v.fs).length),(32,.int .i64 (k:Nat))],[],[]⟩)
    v.fs.length _ ⟨0,by omega,rfl,by omega,rfl⟩ gX ?_
   rintro m st ⟨k,hk,hany,rfl,rfl⟩;refine gT (fun hb=>?_) fun hb=>?_
   ·have hlt:k<v.fs.length:=by omega
    have hg:=fltRows_get hlt;have sp2:=has34_spec l v.path v.fs[k].r hl1;rw [any_drop _ _ hlt] at hany;have hnh:nhF l v.path v.fs[k]=!hasB l v.path v.fs[k].r:=rfl;rw [hnh] at hany;clear hnh;generalize v.fs[k]=f at *;refine g ?_;cases hb:hasB l v.path f.r with
    | true =>
     rw [hb] at hany;(conv=>whnf);refine gGo ?_;exact gZ ⟨k+1,by omega,by simpa using hany,rfl,rfl⟩
    | false =>
     rw [hb] at hany;rw [if_neg (fun hh=>by rw [hh.1] at hany;simp at hany)];(conv=>whnf);exact gR
   ·have hke:k=v.fs.length:=by omega
    rw [hke,List.drop_length] at hany;have hA:v.fs.any (nhF l v.path)=false:=hany;refine gGo ?_;intros;refine W.leG (mp:=[]) (bo:=[]) (st':=⟨[(0,.sl (tblRows l) false),(3,.ro v.row 0),(45,.sl (rfRows v.cs) false),(46,.int .i64 (rfRows v.cs).length),(47,.int .i64 (0:Nat))],[],[]⟩)
     (LeG.mq .nil) ?_
    refine W.loopG (fun m st=>∃ k:Nat,k≤v.cs.length∧v.cs.any (nhR l v.path)=(v.cs.drop k).any (nhR l v.path)∧m=v.cs.length-k∧st=⟨[(0,.sl (tblRows l) false),(3,.ro v.row 0),(45,.sl (rfRows v.cs) false),(46,.int .i64 (rfRows v.cs).length),(47,.int .i64 (k:Nat))],[],[]⟩)
     v.cs.length _ ⟨0,by omega,rfl,by omega,rfl⟩ gX ?_
    rintro m st ⟨k,hk,hany,rfl,rfl⟩;refine gT (fun hb=>?_) fun hb=>?_
    ·have hlt:k<v.cs.length:=by omega
     have hg:=rfRows_get hlt;have sp2:=has34_spec l v.path v.cs[k] hl1;rw [any_drop _ _ hlt] at hany;have hnh:nhR l v.path v.cs[k]=!hasB l v.path v.cs[k]:=rfl;rw [hnh] at hany;clear hnh;generalize v.cs[k]=r at *;refine g ?_;cases hb:hasB l v.path r with
     | true =>
      rw [hb] at hany;(conv=>whnf);refine gGo ?_;exact gZ ⟨k+1,by omega,by simpa using hany,rfl,rfl⟩
     | false =>
      rw [hb] at hany;rw [if_neg (fun hh=>by rw [hh.2] at hany;simp at hany)];(conv=>whnf);exact gR
    ·have hke:k=v.cs.length:=by omega
     rw [hke,List.drop_length] at hany;have hR:v.cs.any (nhR l v.path)=false:=hany;rw [if_pos ⟨hA,hR⟩];refine gGo ?_;intros;refine W.leG (mp:=[]) (bo:=[]) (st':=⟨[(0,.sl (tblRows l) false),(3,.ro v.row 0),(59,.sl (fltRows v.fs) false),(60,.int .i64 (fltRows v.fs).length),(61,.int .i64 (0:Nat))],[],[]⟩)
      (LeG.mq .nil) ?_
     refine W.loopG (fun m st=>∃ k:Nat,k≤v.fs.length∧v.fs.any npB=(v.fs.drop k).any npB∧m=v.fs.length-k∧st=⟨[(0,.sl (tblRows l) false),(3,.ro v.row 0),(59,.sl (fltRows v.fs) false),(60,.int .i64 (fltRows v.fs).length),(61,.int .i64 (k:Nat))],[],[]⟩)
      v.fs.length _ ⟨0,by omega,rfl,by omega,rfl⟩ gX ?_
     rintro m st ⟨k,hk,hany,rfl,rfl⟩;refine gT (fun hb=>?_) fun hb=>?_
     ·have hlt:k<v.fs.length:=by omega
      have hg:=fltRows_get hlt;rw [any_drop _ _ hlt] at hany;generalize v.fs[k]=f at *;by_cases c1:f.kind<1∨4<f.kind∨1024<f.text.length
      ·have hnp:npB f=true:=by
        unfold npB properB;split
        ·simp;omega
        ·split
         ·have:f.text≠[]:=fun e=>by rw [e] at c1;simp at c1;omega
          simpa using this
         ·rfl
       rw [hnp] at hany;rw [if_neg (fun hh=>by rw [hh] at hany;simp at hany)];by_cases d1:f.kind<1
       ·exact gR
       by_cases d2:4<f.kind
       ·exact gR
       ·exact gR
      by_cases c2:3≤f.kind∧f.text≠[]
      ·have hnp:npB f=true:=by
        unfold npB properB;rw [if_neg (by omega),if_pos (by omega)];simpa using c2.2
       have c3:=c2.2;rw [hnp] at hany;rw [if_neg (fun hh=>by rw [hh] at hany;simp at hany)];exact gR
      ·have hnp:npB f=false:=by
        unfold npB properB;by_cases d:f.kind=1∨f.kind=2
        ·rw [if_pos d];simp;omega
        ·have:f.text=[]:=Classical.byContradiction fun e=>c2 ⟨by omega,e⟩;rw [if_neg d,if_pos (by omega)];simpa using this
       rw [hnp,Bool.false_or] at hany;by_cases d:3≤f.kind
       ·have c3:f.text=[]:=Classical.byContradiction fun e=>c2 ⟨d,e⟩;(refine g ?_;intros);refine gL (fun hh=>hh c3) ?_;(conv=>whnf);refine gGo ?_;exact gZ ⟨k+1,by omega,hany,rfl,rfl⟩
       ·(refine g ?_;intros);exact gZ ⟨k+1,by omega,hany,rfl,rfl⟩
     ·have hke:k=v.fs.length:=by omega
      rw [hke,List.drop_length] at hany;have hB:v.fs.any npB=false:=hany;rw [if_pos hB];exact gR
  ·rw [if_neg h8];by_cases h9:v.fs.length≤8
   ·exact gR
   ·exact gR
 ·rw [if_neg h];generalize validE l v.path=e at *;exact gR
def cellV (l:List Table) (p:Pth) (r:Rf) (row:List Nat):Cell:=(colC l r).cells.getD (row.getD (plcI p r.t) 0) cell0
def allK (l:List Table) (v:Vw) (k:Nat) (row:List Nat):Bool:=(v.fs.take k).all fun f=>keepsB f (cellV l v.path f.r row)
theorem keptR_filter (l:List Table) (v:Vw):∀ k,k≤v.fs.length→keptR l v k=(rowsL l v.path).filter (allK l v k)
 | 0,_=>by
  show rowsL l v.path=_;exact (List.filter_eq_self.2 fun _ _=>rfl).symm
 | k+1,h=>by
  have ih:=keptR_filter l v k (by omega);rw [keptR_succ l v (show k<v.fs.length by omega),ih];unfold keepR;rw [List.filter_filter];refine List.filter_congr fun row _=>?_;unfold allK dropB;rw [List.take_succ_eq_append_getElem (show k<v.fs.length by omega),List.all_append,Bool.not_not,Bool.and_comm];simp only [List.all_cons,List.all_nil,Bool.and_true];rfl
theorem allK_succ (l:List Table) (v:Vw) {k:Nat}(h:k<v.fs.length) (row:List Nat):allK l v (k+1) row=(allK l v k row&&keepsB v.fs[k] (cellV l v.path v.fs[k].r row)):=by
 unfold allK;rw [List.take_succ_eq_append_getElem h,List.all_append];simp
structure RowOK (l:List Table) (p:Pth) (row:List Nat):Prop where
 len:row.length=p.steps.length+1
 lt:∀ i,i≤p.steps.length→row.getD i 0<rowsN (tabN l p i)
set_option maxHeartbeats 4000000 in
theorem cell34_spec {l:List Table}{p:Pth}(hv:validE l p=0) {r:Rf}(hr:hasB l p r=true) {row:List Nat}(hrow:RowOK l p row):Spec Tryz.prog 55 [.sl (tblRows (tabsM l p)) false,.agg p.row,.agg r.row,.sl (natRows row) false] [] (.agg (cellV l p r row).row) []:=by
 obtain ⟨i,hx1,hx2,hx3,hx4,hx5,hx6,hx7,hx8,hx9⟩:=has_facts hv hr;have h4:=(valid_path hv).2.1;have sp:=place_spec p p.steps.length r.t (Nat.le_refl _) (by omega);have hz:placeZ p p.steps.length r.t=(i:Int):=by
  unfold placeZ;rw [show befT p p.steps.length=tabsI p from rfl,hx1]
 rw [hz] at sp;have hsl:=stpRows_len p.steps;rw [←hsl] at sp;have htg:(tblRows (tabsM l p))[i]?=some (tabN l p i).row:=by unfold tblRows;rw [List.getElem?_map,tabsM_get l p hx3];rfl
 have hml:=tabsM_len l p;have htl:=tblRows_len (tabsM l p);have hcg:(colRows (tabN l p i).cols)[r.c.toNat]?=some (colC l r).row:=by rw [colRows_get hx6,hx8]
 have hcl:=colRows_len (tabN l p i).cols;have hrl:=natRows_len row;have hi1:i<row.length:=by have:=hrow.len;omega
 have hxg:(natRows row)[i]?=some [.int .i64 ((row.getD i 0:Nat):Int)]:=by
  have e:row.getD i 0=row[i]:=by rw [List.getD_eq_getElem?_getD,List.getElem?_eq_getElem hi1];rfl
  rw [natRows_get hi1,e]
 have hlt:=hrow.lt i hx3;have hce:=cellRows_len (colC l r).cells;have hcx:(cellRows (colC l r).cells)[row.getD i 0]?=some (cellV l p r row).row:=by
  unfold cellV;rw [hx2,cellRows_get (by omega),List.getD_eq_getElem?_getD (l:=(colC l r).cells),List.getElem?_eq_getElem (by omega)];rfl
 generalize cellV l p r row=ce at *;generalize row.getD i 0=y at *;generalize colC l r=c at *;generalize tabN l p i=tn at *;refine gEn env Tryz.func55 fun Γ hN hK hML=>?_;(refine g ?_;intros);(refine gM ?_;conv=>whnf);exact retH rfl (.norm _) rfl rfl rfl trivial
def shC (l:List Table) (v:Vw) (K:List (List Nat)):List Column:=v.cs.map fun r=>⟨(colC l r).name,K.map (cellV l v.path r)⟩
theorem shC_len (l:List Table) (v:Vw) (K:List (List Nat)):(shC l v K).length=v.cs.length:=by simp [shC]
def pcC (l:List Table) (v:Vw) (C:List Column) (row:List Nat):Nat→List Column
 | 0=>C
 | q+1=>addC (pcC l v C row q) q (cellV l v.path (v.cs.getD q ⟨0,0⟩) row)
theorem pcC_len (l:List Table) (v:Vw) (C:List Column) (row:List Nat):∀ q,(pcC l v C row q).length=C.length
 | 0=>rfl
 | q+1=>by show (addC _ _ _).length=_;rw [addC_len,pcC_len l v C row q]
theorem pcC_get (l:List Table) (v:Vw) (C:List Column) (row:List Nat):∀ q i,(pcC l v C row q)[i]?=(C[i]?).map fun c=>if i<q then { c with cells:=c.cells++[cellV l v.path (v.cs.getD i ⟨0,0⟩) row] } else c
 | 0,i=>by
  show C[i]?=_;cases C[i]?<;>simp
 | q+1,i=>by
  have ih:=pcC_get l v C row q i;show (addC _ _ _)[i]?=_;unfold addC;rw [List.getElem?_modify,ih];cases C[i]? with
  | none=>split<;>rfl
  | some c =>
   by_cases e:q=i
   ·subst e;simp
   ·simp only [if_neg e,Option.map_some];by_cases h:i<q
    ·rw [if_pos h,if_pos (by omega)];rfl
    ·rw [if_neg h,if_neg (by omega)];rfl
theorem pcC_all (l:List Table) (v:Vw) (K:List (List Nat)) (row:List Nat):pcC l v (shC l v K) row v.cs.length=shC l v (K++[row]):=by
 refine List.ext_getElem? fun i=>?_;rw [pcC_get];unfold shC;rw [List.getElem?_map,List.getElem?_map];cases h:v.cs[i]? with
 | none=>rfl
 | some r =>
  obtain ⟨h1,h2⟩:=List.getElem?_eq_some_iff.1 h;simp only [Option.map_some,List.map_append,List.map_cons,List.map_nil];rw [if_pos h1,List.getD_eq_getElem?_getD,h];rfl
theorem shC_bare (l:List Table) (v:Vw):shC l v []=bare (v.cs.map (colC l)):=by
 unfold shC bare;rw [List.map_map];rfl
theorem evalV_sh (l:List Table) (v:Vw):shownT l v=⟨(tabOf l v.path.start).id,(tabOf l v.path.start).name,shC l v ((rowsL l v.path).filter (allK l v v.fs.length))⟩:=by
 rw [←keptR_filter l v _ (Nat.le_refl _)];rfl
theorem shC_cells (l:List Table) (v:Vw) (K:List (List Nat)):∀ c∈shC l v K,c.cells.length=K.length:=fun c hc=>by
 unfold shC at hc;obtain ⟨r,_,rfl⟩:=List.mem_map.1 hc;simp
set_option maxHeartbeats 32000000 in
theorem eval34_spec (l:List Table) (v:Vw):Spec Tryz.prog 22 [.sl (tblRows l) false,.agg v.row] [] (.tup [.agg (evalV l v).1.row,.int .i64 (evalV l v).2]) []:=by
 have sp1:=valid34_spec l v;unfold evalV keptE;by_cases h0:validV l v=0
 ·rw [if_pos h0];rw [h0] at sp1;obtain ⟨hv,hf8,hc64,hfs,hcs⟩:=validV_facts h0;have h4:=(valid_path hv).2.1;have sp2:=rows31_spec l v.path;rw [planE_rows] at sp2;by_cases hp:planE l v.path=0
  ·rw [if_pos hp,evalV_sh];rw [if_pos hp] at sp2;have hR4:=(planE_ok hp).2;have sp3:=tables31_spec l v.path (by omega);have hfl:=fltRows_len v.fs;have hrl:=rfRows_len v.cs;have hmem:∀ row∈rowsL l v.path,RowOK l v.path row:=fun row hr=>by
    obtain ⟨g1,g2⟩:=rowsL_mem hr;exact ⟨g1,fun i hi=>g2.lt i (by omega)⟩
   generalize rowsL l v.path=L at *;have hLl:=rowRows_len L;have hg0:(tblRows (tabsM l v.path))[0]?=some (tabOf l v.path.start).row:=by
    unfold tblRows;rw [List.getElem?_map,tabsM_get l v.path (Nat.zero_le _)];rfl
   have hml:=tabsM_len l v.path;obtain ⟨TS,hTS⟩:∃ TS,TS=tabsM l v.path:=⟨_,rfl⟩
   rw [←hTS] at sp3 hg0 hml;have htl:=tblRows_len TS;generalize tabOf l v.path.start=t0 at *;refine gEn env Tryz.func22 fun Γ hN hK hML=>?_;refine gA ?_;(refine gE env hN (by kernel_rfl) ?_;conv=>whnf);refine gGs ?_;refine W.leG (mp:=[(4,4)]) (bo:=[3]) (st':=⟨[(0,.sl (tblRows l) false),(3,.ro v.row 0),(4,.bp 4 0)],[(4,[.rows 3 [[.int .i64 0,.str [],.nils]] none])],[4]⟩)
    (LeG.mk' rfl rfl rfl ⟨⟨_,.refl _,rfl⟩,⟨_,.bp 3 0 4 v.row none rfl rfl (by simp [Vw.row]) (.inr rfl),rfl⟩,⟨_,.refl _,rfl⟩,trivial⟩ (.ci 4 .nil) rfl rfl (by rw [hK];rfl)) ?_
   (refine g ?_;intros);refine W.ownCell 10 0 2 901 2 rfl rfl rfl rfl rfl ?_;refine W.leG (mp:=[(4,4),(10,10),(901,901)]) (bo:=[]) (st':=⟨[(0,.sl (tblRows l) false),(3,.ro v.row 0),(4,.bp 4 0),(7,.sl (rowRows L) false),(9,.sl (tblRows TS) false),(10,.bp 10 0),(54,.sl (rfRows v.cs) false),(55,.int .i64 (rfRows v.cs).length),(56,.int .i64 (0:Nat))],[(4,[.rows 3 [[.int .i64 0,.str [],.nils]] none]),(10,[.rows 3 [[.int .i64 t0.id,.str t0.name,.osl 901 0 0 (nilW ((v.cs.take 0).map (colC l))).length (nilW ((v.cs.take 0).map (colC l))).length]] none]),(901,[.rows 2 (nilW ((v.cs.take 0).map (colC l))) (some [])])],[4,10,901]⟩)
    (LeG.mq (.ci 4 (.ci 10 (.ci 901 .nil)))) ?_
   refine W.loopG (fun m st=>∃ q:Nat,q≤v.cs.length∧m=v.cs.length-q∧st=⟨[(0,.sl (tblRows l) false),(3,.ro v.row 0),(4,.bp 4 0),(7,.sl (rowRows L) false),(9,.sl (tblRows TS) false),(10,.bp 10 0),(54,.sl (rfRows v.cs) false),(55,.int .i64 (rfRows v.cs).length),(56,.int .i64 q)],[(4,[.rows 3 [[.int .i64 0,.str [],.nils]] none]),(10,[.rows 3 [[.int .i64 t0.id,.str t0.name,.osl 901 0 0 (nilW ((v.cs.take q).map (colC l))).length (nilW ((v.cs.take q).map (colC l))).length]] none]),(901,[.rows 2 (nilW ((v.cs.take q).map (colC l))) (some [])])],[4,10,901]⟩)
    v.cs.length _ ⟨0,by omega,by omega,rfl⟩ gX ?_
   rintro m st ⟨q,hq,rfl,rfl⟩;have hnl:=nilW_len ((v.cs.take q).map (colC l));rw [List.length_map,List.length_take] at hnl;refine gT (fun hb=>?_) fun hb=>?_
   ·have hql:q<v.cs.length:=by omega
    have hgq:=rfRows_get hql;have spG:=get3_spec l v.cs[q].t v.cs[q].c;rw [show (getC l v.cs[q].t v.cs[q].c).getD Column.zero=colC l v.cs[q] from rfl] at spG;have hsn:nilW ((v.cs.take (q+1)).map (colC l))=nilW ((v.cs.take q).map (colC l))++[[.str (colC l v.cs[q]).name,.nils]]:=by
     rw [List.take_succ_eq_append_getElem hql,List.map_append];unfold nilW;rw [List.map_append];rfl
    generalize (getC l v.cs[q].t v.cs[q].c).isSome=bb at *;generalize colC l v.cs[q]=c at *;generalize nilW ((v.cs.take q).map (colC l))=N0 at *;generalize v.cs[q]=r at *;refine g ?_;refine ⟨⟨rowsSz_cons rfl rowsSz_nil,rfl⟩,fitsN (n:=N0.length+1) (b:=40) (by omega) (by omega),.inl ⟨rfl,rfl,?_⟩⟩;(conv=>whnf);refine gGo ?_;refine ⟨_,_,?_,⟨q+1,by omega,rfl,rfl⟩,[(4,4),(10,10),(901,901)],[],[],.mq (.ci 4 (.cons 10 rfl rfl (.refl _) (by rw [hsn,List.length_append];rfl) (.cons 901 rfl rfl (.refl _) (by rw [hsn];rfl) .nil)))⟩;omega
   ·have hqe:q=v.cs.length:=by omega
    rw [hqe,List.take_length];clear hnl;obtain ⟨CS,hCS⟩:∃ CS,CS=v.cs.map (colC l):=⟨_,rfl⟩
    have hsb:shC l v []=bare CS:=by rw [hCS];exact shC_bare l v
    rw [←hCS];have hCl:CS.length=v.cs.length:=by rw [hCS,List.length_map]
    have hnl:=nilW_len CS;have hcw:=colWs_len (bare CS);have hbl:(bare CS).length=CS.length:=by simp [bare]
    refine gGo ?_;intros;refine W.ref (Ref.reserve 902 (CS.length+2) 2 rfl) ?_;refine W.leG (mp:=[(4,4),(10,10),(901,901),(902,902)]) (bo:=[]) (st':=⟨[(0,.sl (tblRows l) false),(3,.ro v.row 0),(4,.bp 4 0),(7,.sl (rowRows L) false),(9,.sl (tblRows TS) false),(10,.bp 10 0),(75,.sl (rowRows L) false),(76,.int .i64 (rowRows L).length),(77,.int .i64 (0:Nat))],[(4,[.rows 3 [[.int .i64 0,.str [],.nils]] none]),(10,[.rows 3 [[.int .i64 t0.id,.str t0.name,.osl 901 0 0 (nilW (CS)).length (nilW (CS)).length]] none]),(901,[.rows 2 (nilW (CS)) (some [])]),(902,famL (CS.length+2) fun _=>.rows 2 [] (some []))],[4,10,901,902]⟩)
     (LeG.mq (.ci 4 (.ci 10 (.ci 901 (.fam 902 rfl rfl (famL_famB fun _ _=>rfl) .nil))))) ?_
    refine W.ref (Ref.recell 901 (colWs (bare CS)) (some [902]) rfl (by omega) (colWs_recell rfl) (fun l hl q hq=>by cases hl;simp at hq;subst hq;rfl)) ?_;rw [colF_bare,show (nilW CS).length=(colWs (bare CS)).length by omega,←hsb];clear hcw hnl hCl hbl hsb hCS;refine W.loopG (fun m st=>∃ j:Nat,j≤L.length∧m=L.length-j∧st=⟨[(0,.sl (tblRows l) false),(3,.ro v.row 0),(4,.bp 4 0),(7,.sl (rowRows L) false),(9,.sl (tblRows TS) false),(10,.bp 10 0),(75,.sl (rowRows L) false),(76,.int .i64 (rowRows L).length),(77,.int .i64 j)],[(4,[.rows 3 [[.int .i64 0,.str [],.nils]] none]),(10,[.rows 3 [[.int .i64 t0.id,.str t0.name,.osl 901 0 0 (colWs (shC l v ((L.take j).filter (allK l v v.fs.length)))).length (colWs (shC l v ((L.take j).filter (allK l v v.fs.length)))).length]] none]),(901,[.rows 2 (colWs (shC l v ((L.take j).filter (allK l v v.fs.length)))) (some [902])]),(902,famL ((shC l v ((L.take j).filter (allK l v v.fs.length))).length+2) (colF (shC l v ((L.take j).filter (allK l v v.fs.length)))))],[4,10,901,902]⟩)
     L.length _ ⟨0,by omega,by omega,rfl⟩ ⟨[(4,4),(10,10),(901,901),(902,902)],[],[],.mq (.ci 4 (.ci 10 (.ci 901 (.fam 902 rfl (rfl) (colF_fam _ _) .nil))))⟩ ?_
    rintro m st ⟨j,hj,rfl,rfl⟩;refine gT (fun hb=>?_) fun hb=>?_
    ·have hlt:j<L.length:=by omega
     have hgj:=rowRows_get hlt;have hrow:=hmem _ (List.getElem_mem hlt);have hft:(L.take (j+1)).filter (allK l v v.fs.length)=if allK l v v.fs.length L[j]=true then (L.take j).filter (allK l v v.fs.length)++[L[j]] else (L.take j).filter (allK l v v.fs.length):=by
      rw [List.take_succ_eq_append_getElem hlt,List.filter_append];by_cases hk:allK l v v.fs.length L[j]=true<;>simp [hk]
     have hFl:((L.take j).filter (allK l v v.fs.length)).length≤4096:=by
      have:=List.length_filter_le (allK l v v.fs.length) (L.take j);rw [List.length_take] at this;omega
     generalize (L.take j).filter (allK l v v.fs.length)=K at *;generalize L[j]=row at *;have hnr:=natRows_len row;(refine g ?_;intros);refine W.leG (mp:=[(4,4),(10,10),(901,901),(902,902)]) (bo:=[]) (st':=⟨[(0,.sl (tblRows l) false),(3,.ro v.row 0),(4,.bp 4 0),(7,.sl (rowRows L) false),(9,.sl (tblRows TS) false),(10,.bp 10 0),(75,.sl (rowRows L) false),(76,.int .i64 (rowRows L).length),(16,.sl (natRows row) false),(77,.int .i64 j),(82,.sl (fltRows v.fs) false),(83,.int .i64 (fltRows v.fs).length),(17,.bool (allK l v 0 row)),(84,.int .i64 (0:Nat))],[(4,[.rows 3 [[.int .i64 0,.str [],.nils]] none]),(10,[.rows 3 [[.int .i64 t0.id,.str t0.name,.osl 901 0 0 (colWs (shC l v K)).length (colWs (shC l v K)).length]] none]),(901,[.rows 2 (colWs (shC l v K)) (some [902])]),(902,famL ((shC l v K).length+2) (colF (shC l v K)))],[4,10,901,902]⟩)
      (LeG.mq (.ci 4 (.ci 10 (.ci 901 (.fam 902 rfl (rfl) (colF_fam _ _) .nil))))) ?_
     refine W.loopG (fun m st=>∃ k:Nat,k≤v.fs.length∧m=v.fs.length-k∧st=⟨[(0,.sl (tblRows l) false),(3,.ro v.row 0),(4,.bp 4 0),(7,.sl (rowRows L) false),(9,.sl (tblRows TS) false),(10,.bp 10 0),(75,.sl (rowRows L) false),(76,.int .i64 (rowRows L).length),(16,.sl (natRows row) false),(77,.int .i64 j),(82,.sl (fltRows v.fs) false),(83,.int .i64 (fltRows v.fs).length),(17,.bool (allK l v k row)),(84,.int .i64 k)],[(4,[.rows 3 [[.int .i64 0,.str [],.nils]] none]),(10,[.rows 3 [[.int .i64 t0.id,.str t0.name,.osl 901 0 0 (colWs (shC l v K)).length (colWs (shC l v K)).length]] none]),(901,[.rows 2 (colWs (shC l v K)) (some [902])]),(902,famL ((shC l v K).length+2) (colF (shC l v K)))],[4,10,901,902]⟩)
      v.fs.length _ ⟨0,by omega,by omega,rfl⟩ ⟨[(4,4),(10,10),(901,901),(902,902)],[],[],.mq (.ci 4 (.ci 10 (.ci 901 (.fam 902 rfl (rfl) (colF_fam _ _) .nil))))⟩ ?_
     rintro m st ⟨k,hk,rfl,rfl⟩;refine gT (fun hb=>?_) fun hb=>?_
     ·have hkl:k<v.fs.length:=by omega
      have hgk:=fltRows_get hkl;have spC:=cell34_spec hv (hfs _ (List.getElem_mem hkl)).1 hrow;rw [←hTS] at spC;have hsk:=allK_succ l v hkl row;have spK:=keeps34_spec v.fs[k] (cellV l v.path v.fs[k].r row);generalize allK l v k row=ok at *;generalize cellV l v.path v.fs[k].r row=ce at *;generalize v.fs[k]=f at *;cases ok with
      | false =>
       rw [Bool.false_and] at hsk;refine g ?_;refine ⟨_,_,?_,⟨k+1,by omega,rfl,rfl⟩,[(4,4),(10,10),(901,901),(902,902)],[],[],LeG.mk' rfl rfl rfl (by rw [hsk];exact (by repeat' (first | exact trivial | exact ⟨_,.refl _,rfl⟩ | apply And.intro))) (.ci 4 (.ci 10 (.ci 901 (.fam 902 rfl (rfl) (colF_fam _ _) .nil)))) rfl rfl (by rw [hK];rfl)⟩;omega
      | true =>
       rw [Bool.true_and] at hsk;refine g ?_;refine ⟨_,_,?_,⟨k+1,by omega,rfl,rfl⟩,[(4,4),(10,10),(901,901),(902,902)],[],[],LeG.mk' rfl rfl rfl (by rw [hsk];exact (by repeat' (first | exact trivial | exact ⟨_,.refl _,rfl⟩ | apply And.intro))) (.ci 4 (.ci 10 (.ci 901 (.fam 902 rfl (rfl) (colF_fam _ _) .nil)))) rfl rfl (by rw [hK];rfl)⟩;omega
     ·have hke:k=v.fs.length:=by omega
      rw [hke];cases hall:allK l v v.fs.length row with
      | false =>
       rw [if_neg (by rw [hall];decide)] at hft;refine gGo ?_;refine ⟨_,_,?_,⟨j+1,by omega,rfl,rfl⟩,[(4,4),(10,10),(901,901),(902,902)],[],[],.mq (by rw [hft];exact (.ci 4 (.ci 10 (.ci 901 (.fam 902 rfl (rfl) (colF_fam _ _) .nil)))))⟩;omega
      | true =>
       rw [if_pos hall] at hft;have hp0:pcC l v (shC l v K) row 0=shC l v K:=rfl;have hpa:=pcC_all l v K row;have hpl:=fun q=>pcC_len l v (shC l v K) row q;have hsl:=shC_len l v K;have hsm:∀ q,q≤v.cs.length→∀ hh:q<(pcC l v (shC l v K) row q).length,((pcC l v (shC l v K) row q)[q]'hh).cells.length≤4096:=fun q hq hh=>by
        have h1:=pcC_get l v (shC l v K) row q q;rw [List.getElem?_eq_getElem hh] at h1;have hh2:q<(shC l v K).length:=by rw [hpl] at hh;exact hh
        rw [List.getElem?_eq_getElem hh2] at h1;simp only [Option.map_some,Nat.lt_irrefl,if_false] at h1;rw [Option.some.inj h1];have h3:=shC_cells l v K _ (List.getElem_mem hh2);omega
       refine gGo ?_;intros;refine W.leG (mp:=[(4,4),(10,10),(901,901),(902,902)]) (bo:=[]) (st':=⟨[(0,.sl (tblRows l) false),(3,.ro v.row 0),(4,.bp 4 0),(7,.sl (rowRows L) false),(9,.sl (tblRows TS) false),(10,.bp 10 0),(75,.sl (rowRows L) false),(76,.int .i64 (rowRows L).length),(16,.sl (natRows row) false),(77,.int .i64 j),(104,.sl (rfRows v.cs) false),(105,.int .i64 (rfRows v.cs).length),(106,.int .i64 (0:Nat))],[(4,[.rows 3 [[.int .i64 0,.str [],.nils]] none]),(10,[.rows 3 [[.int .i64 t0.id,.str t0.name,.osl 901 0 0 (colWs (pcC l v (shC l v K) row 0)).length (colWs (pcC l v (shC l v K) row 0)).length]] none]),(901,[.rows 2 (colWs (pcC l v (shC l v K) row 0)) (some [902])]),(902,famL ((pcC l v (shC l v K) row 0).length+2) (colF (pcC l v (shC l v K) row 0)))],[4,10,901,902]⟩)
        (LeG.mq (.ci 4 (.ci 10 (.ci 901 (.fam 902 rfl (rfl) (colF_fam _ _) .nil))))) ?_
       refine W.loopG (fun m st=>∃ q:Nat,q≤v.cs.length∧m=v.cs.length-q∧st=⟨[(0,.sl (tblRows l) false),(3,.ro v.row 0),(4,.bp 4 0),(7,.sl (rowRows L) false),(9,.sl (tblRows TS) false),(10,.bp 10 0),(75,.sl (rowRows L) false),(76,.int .i64 (rowRows L).length),(16,.sl (natRows row) false),(77,.int .i64 j),(104,.sl (rfRows v.cs) false),(105,.int .i64 (rfRows v.cs).length),(106,.int .i64 q)],[(4,[.rows 3 [[.int .i64 0,.str [],.nils]] none]),(10,[.rows 3 [[.int .i64 t0.id,.str t0.name,.osl 901 0 0 (colWs (pcC l v (shC l v K) row q)).length (colWs (pcC l v (shC l v K) row q)).length]] none]),(901,[.rows 2 (colWs (pcC l v (shC l v K) row q)) (some [902])]),(902,famL ((pcC l v (shC l v K) row q).length+2) (colF (pcC l v (shC l v K) row q)))],[4,10,901,902]⟩)
        v.cs.length _ ⟨0,by omega,by omega,rfl⟩ ⟨[(4,4),(10,10),(901,901),(902,902)],[],[],.mq (.ci 4 (.ci 10 (.ci 901 (.fam 902 rfl (rfl) (colF_fam _ _) .nil))))⟩ ?_
       rintro m st ⟨q,hq,rfl,rfl⟩;refine gT (fun hb=>?_) fun hb=>?_
       ·have hql:q<v.cs.length:=by omega
        have hgq:=rfRows_get hql;have spC:=cell34_spec hv (hcs _ (List.getElem_mem hql)) hrow;rw [←hTS] at spC;have hsn:pcC l v (shC l v K) row (q+1)=addC (pcC l v (shC l v K) row q) q (cellV l v.path v.cs[q] row):=by
         show addC _ _ _=_;rw [List.getD_eq_getElem?_getD,List.getElem?_eq_getElem hql];rfl
        have hCl:=hpl q;rw [hsl] at hCl;have hsm1:=hsm q hq;generalize pcC l v (shC l v K) row q=C at *;generalize cellV l v.path v.cs[q] row=ce at *;generalize v.cs[q]=r at *;have hal:q<C.length:=by omega
        have hsm2:=hsm1 hal;have hgw:=colWs_get hal;have hset:=fun n (hn:n=(C[q]).cells.length+1)=>addC_ws (c:=ce) hal hn;have hff:=addC_f (c:=ce) hal;have hfk:(famL (C.length+2) (colF C))[q]?=some (.rows 2 (cellRows C[q].cells) (some [])):=by rw [famL_get (by omega),colF_get hal]
        have hckl:=cellRows_len C[q].cells;have hwl:=colWs_len C;have hwl2:(colWs (addC C q ce)).length=(colWs C).length:=by rw [colWs_len,addC_len,colWs_len]
        unfold colW at hgw;clear hsm1 hsm;generalize C[q]=ck at *;refine g ?_;generalize hO:oslRows _ 902 q=O;have hO2:O=some (2,cellRows ck.cells,some []):=by rw [←hO];exact oslRows_of hfk
        subst hO2;clear hO;(conv=>whnf);refine ⟨⟨rowsSz_cons rfl rowsSz_nil,by omega⟩,fitsN (n:=ck.cells.length+1) (b:=24) (by omega) (by omega),.inl ⟨rfl,rfl,?_⟩⟩;(conv=>whnf);split
        ·rename_i heq;have h9:=congrArg List.length heq;change (famL (C.length+2) (colF C)).length=1 at h9;rw [famL_len] at h9;omega
        rename_i k0 l0 i0 hnp;clear hnp;(conv=>whnf);refine gGo ?_;refine rowAt_of (by simpa using hgw) ?_;(conv=>whnf);refine gGs ?_;refine W.ref (Ref.reks 901 (rows1:=colWs (addC C k0 ce)) [902] rfl (by rw [←hset _ rfl,show (0+((k0:Nat):Int).toNat)=k0 by omega];rfl) (fun i r q v hi hq=>?_) (fun q hq=>?_)) ?_
        ·exact colWs_sites hi hq
        ·simp at hq;subst hq;rfl
        refine gGo ?_;refine ⟨_,_,?_,⟨k0+1,by omega,rfl,rfl⟩,[(4,4),(10,10),(901,901),(902,902)],[],[],LeG.mq (.ci 4 (.cons 10 rfl rfl (.refl _) (by rw [hsn,hwl2];rfl) (.cons 901 rfl rfl (.refl _) (by rw [hsn];rfl) (.fam 902 rfl ?_ (colF_fam _ _) .nil))))⟩
        ·omega
        ·rw [hsn,addC_len];show _=(famL _ _).set _ _;rw [famL_set];refine famL_congr fun i _=>?_;rw [hff];by_cases hik:i=k0
         ·rw [if_pos hik,if_pos hik];unfold cellRows;rw [List.map_append];rfl
         ·rw [if_neg hik,if_neg hik]
       ·have hqe:q=v.cs.length:=by omega
        rw [hqe,hpa];refine gGo ?_;refine ⟨_,_,?_,⟨j+1,by omega,rfl,rfl⟩,[(4,4),(10,10),(901,901),(902,902)],[],[],.mq (by rw [hft];exact (.ci 4 (.ci 10 (.ci 901 (.fam 902 rfl (rfl) (colF_fam _ _) .nil)))))⟩;omega
    ·have hje:j=L.length:=by omega
     rw [hje,List.take_length];refine gA ?_;refine gD rfl ?_;refine gG ?_;(conv=>whnf);have hrw:∀ C,Table.row ⟨t0.id,t0.name,C⟩=[.int .i64 t0.id,.str t0.name,.sl (colRows C) false]:=fun C=>rfl;rw [hrw];generalize shC l v (L.filter (allK l v v.fs.length))=C at *;have hcl2:(colWs C).length=(colRows C).length:=by rw [colWs_len,colRows_len]
     refine W.leG (mp:=[(4,4),(10,10),(901,901)]) (bo:=[902]) (st':=⟨[(4,.bp 4 0),(10,.bp 10 0)],[(4,[.rows 3 [[.int .i64 0,.str [],.nils]] none]),(10,[.rows 3 [[.int .i64 t0.id,.str t0.name,.osl 901 0 0 (colWs C).length (colWs C).length]] none]),(901,[.rows 2 (colRows C) (some [])])],[4,10,901]⟩)
      (LeG.mq (.ci 4 (.ci 10 (.cons 901 (b1:=.rows 2 (colRows C) (some [])) rfl rfl (colWs_lent rfl (by omega) rfl) rfl .nil)))) ?_
     refine W.leG (mp:=[(4,4),(10,10)]) (bo:=[901]) (st':=⟨[(4,.bp 4 0),(10,.bp 10 0)],[(4,[.rows 3 [[.int .i64 0,.str [],.nils]] none]),(10,[.rows 3 [[.int .i64 t0.id,.str t0.name,.sl (colRows C) false]] none])],[4,10]⟩)
      (LeG.mq (.ci 4 (.cons 10 (b1:=.rows 3 [[.int .i64 t0.id,.str t0.name,.sl (colRows C) false]] none) rfl rfl (.rows _ _ _ (by repeat' (first | exact trivial | exact ⟨Lent.refl _,rfl⟩ | exact ⟨Lent.whole rfl rfl hcl2 rfl (.inl rfl),rfl⟩ | apply And.intro))) rfl .nil))) ?_
     refine gGo ?_;(refine gM ?_;conv=>whnf);exact ret0 rfl rfl rfl
  ·rw [if_neg hp] at sp2;rw [if_neg hp];generalize planE l v.path=e at *;refine gEn env Tryz.func22 fun Γ hN hK hML=>?_;refine g ?_;(refine gM ?_;conv=>whnf);exact retH rfl (.norm _) rfl rfl rfl trivial
 ·rw [if_neg h0,if_neg h0];generalize validV l v=e at *;refine gEn env Tryz.func22 fun Γ hN hK hML=>?_;refine g ?_;(refine gM ?_;conv=>whnf);exact retH rfl (.norm _) rfl rfl rfl trivial
def RectT (t:Table):Prop:=∀ c∈t.cols,c.cells.length=rowsN t
def agB (t:Table) (i:Nat) (rows:Table) (k n:Nat):Bool:=(List.range n).all fun c=>(cellT rows c k).null||fitC (cellT rows c k) (cellT t c i)
theorem agB_succ (t:Table) (i:Nat) (rows:Table) (k n:Nat):agB t i rows k (n+1)=(agB t i rows k n&&((cellT rows n k).null||fitC (cellT rows n k) (cellT t n i))):=by
 unfold agB;rw [List.range_succ,List.all_append];simp
theorem agB_false {t:Table}{i:Nat}{rows:Table}{k n m:Nat}(h:agB t i rows k (n+1)=false) (hm:n<m):agB t i rows k m=false:=by
 unfold agB at h ⊢;rw [List.all_eq_false] at h ⊢;obtain ⟨c,hc,h2⟩:=h;exact ⟨c,List.mem_range.2 (by have:=List.mem_range.1 hc;omega),h2⟩
def anyB (t rows:Table) (k n:Nat):Bool:=(List.range n).any fun i=>agB t i rows k rows.cols.length
theorem anyB_succ (t rows:Table) (k n:Nat):anyB t rows k (n+1)=(anyB t rows k n||agB t n rows k rows.cols.length):=by
 unfold anyB;rw [List.range_succ,List.any_append];simp
theorem anyB_true {t rows:Table}{k n m:Nat}(h:anyB t rows k n=true) (hm:n≤m):anyB t rows k m=true:=by
 unfold anyB at h ⊢;rw [List.any_eq_true] at h ⊢;obtain ⟨c,hc,h2⟩:=h;exact ⟨c,List.mem_range.2 (by have:=List.mem_range.1 hc;omega),h2⟩
def contB (t rows:Table):Bool:=decide (t.cols.length=rows.cols.length)&&(List.range (rowsN rows)).all fun k=>anyB t rows k (rowsN t)
theorem contB_false {t rows:Table}{k:Nat}(hk:k<rowsN rows) (h:anyB t rows k (rowsN t)=false):contB t rows=false:=by
 unfold contB;rw [Bool.and_eq_false_iff];right;rw [List.all_eq_false];exact ⟨k,List.mem_range.2 hk,by rw [h];decide⟩
theorem cellT_get {t:Table}(h:RectT t) {c i:Nat}(hc:c<t.cols.length) (hi:i<rowsN t):(cellRows (t.cols[c]).cells)[i]?=some (cellT t c i).row∧(cellRows (t.cols[c]).cells).length=rowsN t:=by
 have hl:=h _ (List.getElem_mem hc);refine ⟨?_,by rw [cellRows_len,hl]⟩;rw [cellRows_get (by omega)];unfold cellT;rw [List.getD_eq_getElem?_getD (l:=t.cols),List.getElem?_eq_getElem hc];simp only [Option.getD_some];rw [List.getD_eq_getElem?_getD,List.getElem?_eq_getElem (by omega)];rfl
set_option maxHeartbeats 8000000 in
theorem agrees_spec {t rows:Table}(ht:RectT t) (hr:RectT rows) (hlen:t.cols.length=rows.cols.length) {i k:Nat}(hi:i<rowsN t) (hk:k<rowsN rows):Spec Tryz.prog 148 [.agg t.row,.int .i64 i,.agg rows.row,.int .i64 k] [] (.bool (agB t i rows k rows.cols.length)) []:=by
 have hcl:=colRows_len rows.cols;have hcl2:=colRows_len t.cols;refine gEn env Tryz.func148 fun Γ hN hK hML=>?_;refine gA ?_;(refine gE env hN (by kernel_rfl) ?_;conv=>whnf);refine gGs ?_;refine W.leG (mp:=[]) (bo:=[4,6]) (st':=⟨[(1,.int .i64 i),(3,.int .i64 k),(4,.ro t.row 0),(6,.ro rows.row 0)],[],[]⟩)
  (LeG.mk' rfl rfl rfl ⟨⟨_,.refl _,rfl⟩,⟨_,.refl _,rfl⟩,⟨_,.bp 4 0 3 t.row none rfl rfl (by simp [Table.row]) (.inr rfl),rfl⟩,⟨_,.bp 6 0 3 rows.row none rfl rfl (by simp [Table.row]) (.inr rfl),rfl⟩,trivial⟩ .nil rfl rfl (by rw [hK];rfl)) ?_
 refine gGo ?_;intros;refine W.leG (mp:=[]) (bo:=[]) (st':=⟨[(1,.int .i64 i),(3,.int .i64 k),(4,.ro t.row 0),(6,.ro rows.row 0),(13,.sl (colRows rows.cols) false),(14,.int .i64 (colRows rows.cols).length),(15,.int .i64 (0:Nat))],[],[]⟩)
  (LeG.mq .nil) ?_
 refine W.loopG (fun m st=>∃ c:Nat,c≤rows.cols.length∧agB t i rows k c=true∧m=rows.cols.length-c∧st=⟨[(1,.int .i64 i),(3,.int .i64 k),(4,.ro t.row 0),(6,.ro rows.row 0),(13,.sl (colRows rows.cols) false),(14,.int .i64 (colRows rows.cols).length),(15,.int .i64 (c:Nat))],[],[]⟩)
  rows.cols.length _ ⟨0,by omega,rfl,by omega,rfl⟩ gX ?_
 rintro m st ⟨c,hc,hag,rfl,rfl⟩;refine gT (fun hb=>?_) fun hb=>?_
 ·have hlt:c<rows.cols.length:=by omega
  have hlt2:c<t.cols.length:=by omega
  have hg1:=colRows_get hlt;have hg2:=colRows_get hlt2;obtain ⟨hx1,hx2⟩:=cellT_get hr hlt hk;obtain ⟨hy1,hy2⟩:=cellT_get ht hlt2 hi;have hsn:=agB_succ t i rows k c;have hfa:=fun h=>agB_false (t:=t) (i:=i) (rows:=rows) (k:=k) (n:=c) (m:=rows.cols.length) h hlt;rw [hag,Bool.true_and] at hsn;generalize rows.cols[c]=cr at *;generalize t.cols[c]=ct at *;obtain ⟨xn,xt,hx⟩:∃ xn xt,cellT rows c k=⟨xn,xt⟩:=⟨_,_,rfl⟩
  obtain ⟨yn,yt,hy⟩:∃ yn yt,cellT t c i=⟨yn,yt⟩:=⟨_,_,rfl⟩
  rw [hx] at hx1 hsn;rw [hy] at hy1 hsn;clear hx hy;have hxr:Cell.row ⟨xn,xt⟩=[.bool xn,.str xt]:=rfl;have hyr:Cell.row ⟨yn,yt⟩=[.bool yn,.str yt]:=rfl;rw [hxr] at hx1;rw [hyr] at hy1;refine g ?_;cases xn with
  | true =>
   have hsn2:agB t i rows k (c+1)=true:=by rw [hsn];rfl
   (conv=>whnf);refine gGo ?_;exact gZ ⟨c+1,by omega,hsn2,rfl,rfl⟩
  | false =>
   cases yn with
   | true =>
    have hsn2:agB t i rows k (c+1)=false:=by rw [hsn];rfl
    rw [hfa hsn2];(conv=>whnf);exact gR
   | false =>
    by_cases he:yt=xt
    ·have hsn2:agB t i rows k (c+1)=true:=by rw [hsn];unfold fitC;simp [he]
     (conv=>whnf);refine g ?_;refine gL (fun hh=>hh he) ?_;(conv=>whnf);refine gGo ?_;exact gZ ⟨c+1,by omega,hsn2,rfl,rfl⟩
    ·have hsn2:agB t i rows k (c+1)=false:=by rw [hsn];unfold fitC;simp [Ne.symm he]
     rw [hfa hsn2];(conv=>whnf);exact gR
 ·have hce:c=rows.cols.length:=by omega
  rw [hce] at hag;rw [hag];exact gR
set_option maxHeartbeats 8000000 in
theorem contains_rows_spec {t rows:Table}(ht:RectT t) (hr:RectT rows) (hbt:rowsN t≤1000000) (hbr:rowsN rows≤1000000):Spec Tryz.prog 99 [.agg t.row,.agg rows.row] [] (.bool (contB t rows)) []:=by
 have hcl:=colRows_len rows.cols;have hcl2:=colRows_len t.cols;have sp1:=rows_spec t;have sp2:=rows_spec rows;refine gEn env Tryz.func99 fun Γ hN hK hML=>?_;refine gA ?_;(refine gE env hN (by kernel_rfl) ?_;conv=>whnf);refine gGs ?_;refine W.leG (mp:=[]) (bo:=[2,3]) (st':=⟨[(2,.ro t.row 0),(3,.ro rows.row 0)],[],[]⟩)
  (LeG.mk' rfl rfl rfl ⟨⟨_,.bp 2 0 3 t.row none rfl rfl (by simp [Table.row]) (.inr rfl),rfl⟩,⟨_,.bp 3 0 3 rows.row none rfl rfl (by simp [Table.row]) (.inr rfl),rfl⟩,trivial⟩ .nil rfl rfl (by rw [hK];rfl)) ?_
 by_cases hlen:t.cols.length=rows.cols.length
 ·(refine g ?_;intros);refine W.leG (mp:=[]) (bo:=[]) (st':=⟨[(2,.ro t.row 0),(3,.ro rows.row 0),(16,.int .i64 (rowsN rows:Nat)),(17,.int .i64 (0:Nat))],[],[]⟩)
   (LeG.mq .nil) ?_
  refine W.loopG (fun m st=>∃ k:Nat,k≤rowsN rows∧(∀ k',k' < k→anyB t rows k' (rowsN t)=true)∧m=rowsN rows-k∧st=⟨[(2,.ro t.row 0),(3,.ro rows.row 0),(16,.int .i64 (rowsN rows:Nat)),(17,.int .i64 (k:Nat))],[],[]⟩)
   (rowsN rows) _ ⟨0,by omega,fun k' h=>by omega,by omega,rfl⟩ gX ?_
  rintro m st ⟨k,hk,hall,rfl,rfl⟩;refine gT (fun hb=>?_) fun hb=>?_
  ·have hkl:k<rowsN rows:=by omega
   have hcf:=contB_false (t:=t) hkl;refine gGo ?_;refine W.leG (mp:=[]) (bo:=[]) (st':=⟨[(2,.ro t.row 0),(3,.ro rows.row 0),(16,.int .i64 (rowsN rows:Nat)),(17,.int .i64 (k:Nat)),(5,.int .i64 k),(6,.bool (anyB t rows k 0)),(7,.int .i64 (0:Nat))],[],[]⟩)
    (LeG.mq .nil) ?_
   refine W.loopG (fun m st=>∃ i:Nat,i≤rowsN t∧m=rowsN t-i∧st=⟨[(2,.ro t.row 0),(3,.ro rows.row 0),(16,.int .i64 (rowsN rows:Nat)),(17,.int .i64 (k:Nat)),(5,.int .i64 k),(6,.bool (anyB t rows k i)),(7,.int .i64 i)],[],[]⟩)
    (rowsN t) _ ⟨0,by omega,by omega,rfl⟩ gX ?_
   rintro m st ⟨i,hi,rfl,rfl⟩;have hsn:=anyB_succ t rows k i;refine gGo ?_;by_cases hil:i<rowsN t
   ·have spA:=agrees_spec ht hr hlen hil hkl;have htr:=fun h=>anyB_true (t:=t) (rows:=rows) (k:=k) (n:=i) (m:=rowsN t) h hi;generalize anyB t rows k i=fd at *;generalize agB t i rows k rows.cols.length=ag at *;cases fd with
    | true =>
     have htr:=htr rfl;refine gGo ?_;(refine gPC (sp1) ?_;conv=>whnf);refine gGo ?_;refine ⟨_,_,?_,⟨k+1,by omega,fun k' hk'=>?_,rfl,rfl⟩,gX⟩
     ·omega
     ·by_cases e:k'=k
      ·rw [e];exact htr
      ·exact hall k' (by omega)
    | false =>
     rw [Bool.false_or] at hsn;refine gGo ?_;(refine gPC (sp1) ?_;conv=>whnf);refine gGo ?_;(refine gPC (spA) ?_;conv=>whnf);refine gGo ?_;refine ⟨_,_,?_,⟨i+1,by omega,rfl,rfl⟩,[],[],[],LeG.mk' rfl rfl rfl (by rw [hsn];exact (by repeat' (first | exact trivial | exact ⟨_,.refl _,rfl⟩ | apply And.intro))) .nil rfl rfl (by rw [hK];rfl)⟩;omega
   ·have hie:i=rowsN t:=by omega
    rw [hie];cases hfd:anyB t rows k (rowsN t) with
    | true =>
     refine gGo ?_;(refine gPC (sp1) ?_;conv=>whnf);refine gGo ?_;refine ⟨_,_,?_,⟨k+1,by omega,fun k' hk'=>?_,rfl,rfl⟩,gX⟩
     ·omega
     ·by_cases e:k'=k
      ·rw [e];exact hfd
      ·exact hall k' (by omega)
    | false =>
     rw [hcf hfd];refine gGo ?_;(refine gPC (sp1) ?_;conv=>whnf);refine gGr ?_;exact ret0 rfl rfl rfl
  ·have hke:k=rowsN rows:=by omega
   have hct:contB t rows=true:=by
    unfold contB;rw [decide_eq_true hlen,Bool.true_and,List.all_eq_true];intro k' hk';exact hall k' (by have:=List.mem_range.1 hk';omega)
   rw [hct];exact gR
 ·have hcf:contB t rows=false:=by
   unfold contB;rw [decide_eq_false hlen,Bool.false_and]
  rw [hcf];exact gR
set_option maxHeartbeats 8000000 in
theorem contains34_spec {t rows:Table}(ht:RectT t) (hr:RectT rows) (hbt:rowsN t≤1000000) (hbr:rowsN rows≤1000000):Spec Tryz.prog 23 [.agg t.row,.agg rows.row] [] (.bool (contB t rows)) []:=by
 have hcl:=colRows_len rows.cols;have hcl2:=colRows_len t.cols;have sp1:=rows3_spec t;have sp2:=rows3_spec rows;refine gEn env Tryz.func23 fun Γ hN hK hML=>?_;refine gA ?_;(refine gE env hN (by kernel_rfl) ?_;conv=>whnf);refine gGs ?_;refine W.leG (mp:=[]) (bo:=[2,3]) (st':=⟨[(2,.ro t.row 0),(3,.ro rows.row 0)],[],[]⟩)
  (LeG.mk' rfl rfl rfl ⟨⟨_,.bp 2 0 3 t.row none rfl rfl (by simp [Table.row]) (.inr rfl),rfl⟩,⟨_,.bp 3 0 3 rows.row none rfl rfl (by simp [Table.row]) (.inr rfl),rfl⟩,trivial⟩ .nil rfl rfl (by rw [hK];rfl)) ?_
 by_cases hlen:t.cols.length=rows.cols.length
 ·(refine g ?_;intros);refine W.leG (mp:=[]) (bo:=[]) (st':=⟨[(2,.ro t.row 0),(3,.ro rows.row 0),(20,.int .i64 (rowsN rows:Nat)),(21,.int .i64 (0:Nat))],[],[]⟩)
   (LeG.mq .nil) ?_
  refine W.loopG (fun m st=>∃ k:Nat,k≤rowsN rows∧(∀ k',k' < k→anyB t rows k' (rowsN t)=true)∧m=rowsN rows-k∧st=⟨[(2,.ro t.row 0),(3,.ro rows.row 0),(20,.int .i64 (rowsN rows:Nat)),(21,.int .i64 (k:Nat))],[],[]⟩)
   (rowsN rows) _ ⟨0,by omega,fun k' h=>by omega,by omega,rfl⟩ gX ?_
  rintro m st ⟨k,hk,hall,rfl,rfl⟩;refine gT (fun hb=>?_) fun hb=>?_
  ·have hkl:k<rowsN rows:=by omega
   have hcf:=contB_false (t:=t) hkl;refine gGo ?_;(refine gPC (sp1) ?_;conv=>whnf);refine gGo ?_;refine W.leG (mp:=[]) (bo:=[]) (st':=⟨[(2,.ro t.row 0),(3,.ro rows.row 0),(20,.int .i64 (rowsN rows:Nat)),(21,.int .i64 (k:Nat)),(5,.int .i64 k),(6,.bool (anyB t rows k 0)),(25,.int .i64 (rowsN t:Nat)),(26,.int .i64 (0:Nat))],[],[]⟩)
    (LeG.mq .nil) ?_
   refine W.loopG (fun m st=>∃ i:Nat,i≤rowsN t∧m=rowsN t-i∧st=⟨[(2,.ro t.row 0),(3,.ro rows.row 0),(20,.int .i64 (rowsN rows:Nat)),(21,.int .i64 (k:Nat)),(5,.int .i64 k),(6,.bool (anyB t rows k i)),(25,.int .i64 (rowsN t:Nat)),(26,.int .i64 (i:Nat))],[],[]⟩)
    (rowsN t) _ ⟨0,by omega,by omega,rfl⟩ gX ?_
   rintro m st ⟨i,hi,rfl,rfl⟩;have hsn:=anyB_succ t rows k i;refine gT (fun hb=>?_) fun hb=>?_
   ·have hil:i<rowsN t:=by omega
    refine gGo ?_;intros;refine W.leG (mp:=[]) (bo:=[]) (st':=⟨[(2,.ro t.row 0),(3,.ro rows.row 0),(20,.int .i64 (rowsN rows:Nat)),(21,.int .i64 (k:Nat)),(5,.int .i64 k),(6,.bool (anyB t rows k i)),(25,.int .i64 (rowsN t:Nat)),(26,.int .i64 (i:Nat)),(7,.int .i64 i),(8,.bool (agB t i rows k (0))),(30,.sl (colRows rows.cols) false),(31,.int .i64 (colRows rows.cols).length),(32,.int .i64 (0:Nat))],[],[]⟩)
     (LeG.mq .nil) ?_
    refine W.loopG (fun m st=>∃ c:Nat,c≤rows.cols.length∧m=rows.cols.length-c∧st=⟨[(2,.ro t.row 0),(3,.ro rows.row 0),(20,.int .i64 (rowsN rows:Nat)),(21,.int .i64 (k:Nat)),(5,.int .i64 k),(6,.bool (anyB t rows k i)),(25,.int .i64 (rowsN t:Nat)),(26,.int .i64 (i:Nat)),(7,.int .i64 i),(8,.bool (agB t i rows k (c))),(30,.sl (colRows rows.cols) false),(31,.int .i64 (colRows rows.cols).length),(32,.int .i64 (c:Nat))],[],[]⟩)
     rows.cols.length _ ⟨0,by omega,by omega,rfl⟩ gX ?_
    rintro m st ⟨c,hc,rfl,rfl⟩;refine gT (fun hb=>?_) fun hb=>?_
    ·have hlt:c<rows.cols.length:=by omega
     have hlt2:c<t.cols.length:=by omega
     have hg1:=colRows_get hlt;have hg2:=colRows_get hlt2;obtain ⟨hx1,hx2⟩:=cellT_get hr hlt hkl;obtain ⟨hy1,hy2⟩:=cellT_get ht hlt2 hil;have hsn2:=agB_succ t i rows k c;have spF:=fit_spec (cellT rows c k) (cellT t c i);generalize rows.cols[c]=cr at *;generalize t.cols[c]=ct at *;generalize fitC (cellT rows c k) (cellT t c i)=fb at *;obtain ⟨xn,xt,hx⟩:∃ xn xt,cellT rows c k=⟨xn,xt⟩:=⟨_,_,rfl⟩
     obtain ⟨yn,yt,hy⟩:∃ yn yt,cellT t c i=⟨yn,yt⟩:=⟨_,_,rfl⟩
     rw [hx] at hx1 hsn2 spF;rw [hy] at hy1 spF;clear hx hy;simp only at hsn2;have hxr:Cell.row ⟨xn,xt⟩=[.bool xn,.str xt]:=rfl;have hyr:Cell.row ⟨yn,yt⟩=[.bool yn,.str yt]:=rfl;rw [hxr] at hx1 spF;rw [hyr] at hy1 spF;generalize agB t i rows k c=ag at *;refine g ?_;cases ag with
     | false =>
      rw [Bool.false_and] at hsn2;(conv=>whnf);refine gGo ?_;refine ⟨_,_,?_,⟨c+1,by omega,rfl,rfl⟩,[],[],[],LeG.mk' rfl rfl rfl (by rw [hsn2];exact (by repeat' (first | exact trivial | exact ⟨_,.refl _,rfl⟩ | apply And.intro))) .nil rfl rfl (by rw [hK];rfl)⟩;omega
     | true =>
      rw [Bool.true_and] at hsn2;cases xn with
      | true =>
       rw [Bool.true_or] at hsn2;(conv=>whnf);refine gGo ?_;refine ⟨_,_,?_,⟨c+1,by omega,rfl,rfl⟩,[],[],[],LeG.mk' rfl rfl rfl (by rw [hsn2];exact (by repeat' (first | exact trivial | exact ⟨_,.refl _,rfl⟩ | apply And.intro))) .nil rfl rfl (by rw [hK];rfl)⟩;omega
      | false =>
       rw [Bool.false_or] at hsn2;(conv=>whnf);refine g ?_;refine ⟨_,_,?_,⟨c+1,by omega,rfl,rfl⟩,[],[],[],LeG.mk' rfl rfl rfl (by rw [hsn2];exact (by repeat' (first | exact trivial | exact ⟨_,.refl _,rfl⟩ | apply And.intro))) .nil rfl rfl (by rw [hK];rfl)⟩;omega
    ·have hce:c=rows.cols.length:=by omega
     subst hce;generalize agB t i rows k rows.cols.length=ag at *;generalize anyB t rows k i=fd at *;cases fd with
     | true =>
      rw [Bool.true_or] at hsn;refine gGo ?_;refine ⟨_,_,?_,⟨i+1,by omega,rfl,rfl⟩,[],[],[],LeG.mk' rfl rfl rfl (by rw [hsn];exact (by repeat' (first | exact trivial | exact ⟨_,.refl _,rfl⟩ | apply And.intro))) .nil rfl rfl (by rw [hK];rfl)⟩;omega
     | false =>
      rw [Bool.false_or] at hsn;refine gGo ?_;refine ⟨_,_,?_,⟨i+1,by omega,rfl,rfl⟩,[],[],[],LeG.mk' rfl rfl rfl (by rw [hsn];exact (by repeat' (first | exact trivial | exact ⟨_,.refl _,rfl⟩ | apply And.intro))) .nil rfl rfl (by rw [hK];rfl)⟩;omega
   ·have hie:i=rowsN t:=by omega
    subst hie;cases hfd:anyB t rows k (rowsN t) with
    | true =>
     refine gGo ?_;refine ⟨_,_,?_,⟨k+1,by omega,fun k' hk'=>?_,rfl,rfl⟩,gX⟩
     ·omega
     ·by_cases e:k'=k
      ·rw [e];exact hfd
      ·exact hall k' (by omega)
    | false =>
     rw [hcf hfd];exact gR
  ·have hke:k=rowsN rows:=by omega
   have hct:contB t rows=true:=by
    unfold contB;rw [decide_eq_true hlen,Bool.true_and,List.all_eq_true];intro k' hk';exact hall k' (by have:=List.mem_range.1 hk';omega)
   rw [hct];exact gR
 ·have hcf:contB t rows=false:=by
   unfold contB;rw [decide_eq_false hlen,Bool.false_and]
  rw [hcf];exact gR
end Go.Sx.Sp
