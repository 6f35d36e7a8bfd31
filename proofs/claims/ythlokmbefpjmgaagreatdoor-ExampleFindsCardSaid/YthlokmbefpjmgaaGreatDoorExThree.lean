/- Views as the document tells them, and which tables contain which rows. -/
import Derived.Test.YthlokmbefpjmgaaGreatDoorExTwo
import Derived.Test.YthlokmbefpjmgaaGreatDoorRtOne
import Derived.Test.YthlokmbefpjmgaaGreatDoorJSix
import Derived.Test.YthlokmbefpjmgaaGreatDoorSxFive
import Derived.Test.YthlokmbefpjmgaaGreatDoorSxFour
set_option linter.unusedVariables false
set_option linter.unusedSimpArgs false
set_option maxHeartbeats 32000000
namespace Go.Sx.Sp
open Go Go.Sx Go.Proofs
attribute [local irreducible] aO famL
structure Flt where
 r:Rf
 kind:Int
 text:Str
 deriving DecidableEq
structure Vw where
 path:Pth
 fs:List Flt
 cs:List Rf
def Flt.row(f:Flt):List V:=[.int .i64 f.r.t,.int .i64 f.r.c,.int .i64 f.kind,.str f.text]
def cZ(l:List Flt):List (List V):=l.map Flt.row
def Vw.row(v:Vw):List V:=[.int .i64 v.path.start,.sl (ae v.path.steps) false,.sl (cZ v.fs) false,.sl (ap v.cs) false]
theorem pU(l:List Flt):(cZ l).length=l.length:=by simp[cZ]
theorem li{l:List Flt}{i:Nat}(h:i<l.length):(cZ l)[i]?=some l[i].row:=by simp[cZ,h]
def fW(p:Pth):List Int:=befT p p.steps.length
def hasB(l:List Table)(p:Pth)(r:Rf):Bool:=(getC l r.t r.c).isSome&&decide (r.t∈fW p)
def nU(f:Flt):Bool:=if f.kind=1∨f.kind=2 then decide (f.text.length≤1024) else if f.kind=3∨f.kind=4 then decide (f.text=[]) else false
def sH(f:Flt)(c:Cell):Bool:=if f.kind=1 then !c.null&&decide (c.text=f.text) else if f.kind=2 then !c.null&&!decide (c.text=f.text) else if f.kind=3 then c.null else !c.null
theorem v7(f:Flt)(c:Cell):Spec Tryz.prog 54 [.agg f.row,.agg c.row] [] (.bool (sH f c)) []:=by
 unfold sH;obtain⟨nul,tx⟩:=c;obtain⟨r0,kd,ft⟩:=f;dsimp only;by_cases h1:kd=1
 ·rw[if_pos h1];cases nul with
  |true =>
   refine gEn env Tryz.func54 fun Γ hN hK hML=>?_;exact gR
  |false =>
   by_cases hx:tx=ft
   ·subst hx;rw[decide_eq_true rfl];refine gEn env Tryz.func54 fun Γ hN hK hML=>?_;exact gR
   ·rw[decide_eq_false hx];refine gEn env Tryz.func54 fun Γ hN hK hML=>?_;exact gR
 rw[if_neg h1];by_cases h2:kd=2
 ·rw[if_pos h2];cases nul with
  |true =>
   refine gEn env Tryz.func54 fun Γ hN hK hML=>?_;exact gR
  |false =>
   by_cases hx:tx=ft
   ·subst hx;rw[decide_eq_true rfl];refine gEn env Tryz.func54 fun Γ hN hK hML=>?_;refine gGo ?_;refine gL (fun h=>h rfl) ?_;(conv=>whnf);exact gR
   ·rw[decide_eq_false hx];refine gEn env Tryz.func54 fun Γ hN hK hML=>?_;exact gR
 rw[if_neg h2];by_cases h3:kd=3
 ·rw[if_pos h3];cases nul with
  |true =>
   refine gEn env Tryz.func54 fun Γ hN hK hML=>?_;exact gR
  |false =>
   refine gEn env Tryz.func54 fun Γ hN hK hML=>?_;exact gR
 rw[if_neg h3];have h4:¬(1=kd):=fun h=>h1 h.symm;cases nul with
 |true =>
  refine gEn env Tryz.func54 fun Γ hN hK hML=>?_;exact gR
 |false =>
  refine gEn env Tryz.func54 fun Γ hN hK hML=>?_;exact gR
theorem sI(l:List Table)(p:Pth)(r:Rf)(hl:p.steps.length≤100):Spec Tryz.prog 109 [.sl (aa l) false,.agg p.row,.agg r.row] [] (.bool (hasB l p r)) []:=by
 have sp1:=gv l r.t r.c;have sp2:=eE p p.steps.length r.t (Nat.le_refl _) hl;have hsl:=aC p.steps;have hpl:decide (0≤cS p p.steps.length r.t)=decide (r.t∈fW p):=by
  unfold cS fW;cases hx:ixI r.t (befT p p.steps.length) with
  |none =>
   have:r.t∉befT p p.steps.length:=fun hm=>by
    have:=(cM.1 hx);exact this hm
   simp[this]
  |some i =>
   have:r.t∈befT p p.steps.length:=List.mem_of_getElem? (oK hx);simp[this]
 unfold hasB;rw[←hpl];generalize (getC l r.t r.c).getD Column.zero=c0 at *;generalize cS p p.steps.length r.t=z at *;rw[←hsl] at sp2;cases hb:(getC l r.t r.c).isSome with
 |false =>
  rw[hb] at sp1;refine gEn env Tryz.func109 fun Γ hN hK hML=>?_;exact gR
 |true =>
  rw[hb] at sp1;by_cases hz:0≤z
  ·rw[decide_eq_true hz];refine gEn env Tryz.func109 fun Γ hN hK hML=>?_;exact gR
  ·rw[decide_eq_false hz];refine gEn env Tryz.func109 fun Γ hN hK hML=>?_;exact gR
def nhF(l:List Table)(p:Pth)(f:Flt):Bool:=!hasB l p f.r
def nhR(l:List Table)(p:Pth)(r:Rf):Bool:=!hasB l p r
def npB(f:Flt):Bool:=!nU f
def je(l:List Table)(v:Vw):Int:=
 if aD l v.path=0 then
  (if v.fs.length≤8∧v.cs.length≤64 then
   (if(v.fs.any (nhF l v.path))=false∧(v.cs.any (nhR l v.path))=false then
    (if(v.fs.any npB)=false then 0 else 2)
   else 5)
  else 3)
 else aD l v.path
def pV:Cell:=⟨false,[]⟩
def Fv(f:Flt)(cs:List Cell)(i:Nat)(row:List Nat):Bool:=!sH f (cs.getD (row.getD i 0) pV)
def Eu(f:Flt)(cs:List Cell)(i:Nat)(R:List (List Nat)):List (List Nat):=R.filter fun x=>!Fv f cs i x
def colC(l:List Table)(r:Rf):Column:=(getC l r.t r.c).getD Column.zero
def plcI(p:Pth)(t:Int):Nat:=d8 (fW p) t
theorem Cv(p:Pth):(fW p).length=p.steps.length+1:=ni p (Nat.le_refl _)
theorem Ew(l:List Table)(p:Pth){i:Nat}(h:i≤p.steps.length):tabN l p i=aT l ((fW p).getD i 0):=by
 cases i with
 |zero=>rfl
 |succ q =>
  have hq:q<p.steps.length:=by omega
  have:(fW p).getD (q+1) 0=(br p q).tt:=by
   unfold fW befT br;rw[List.take_length];simp[hq]
  rw[this];rfl
theorem uU{l:List Table}{p:Pth}(h:aD l p=0):∀j,j≤p.steps.length→(befT p j).Nodup
 | 0,_=>by simp[befT]
 |j+1,hj=>by
  have hjl:j<p.steps.length:=by omega
  have hsf:=cN (aI h).2.2 hjl;rw[oH p hjl,List.nodup_append];refine⟨uU h j (by omega),by simp,fun a ha b hb=>?_⟩;rw[List.mem_singleton.1 hb];intro e;have:=hsf.new;rw[show br p j=p.steps[j] by simp[br,hjl]] at this;exact this (e ▸ ha)
theorem uV{l:List Table}{p:Pth}(h:aD l p=0){r:Rf}(hr:hasB l p r=true):∃i,ixI r.t (fW p)=some i∧plcI p r.t=i∧i≤p.steps.length∧(fW p)[i]?=some r.t∧aT l r.t=tabN l p i∧∃hc:r.c.toNat<(tabN l p i).cols.length,0≤r.c∧colC l r=(tabN l p i).cols[r.c.toNat]∧(colC l r).cells.length=ab (tabN l p i):=by
 unfold hasB at hr;rw[Bool.and_eq_true,decide_eq_true_iff] at hr;cases hx:ixI r.t (fW p) with
 |none=>exact absurd hr.2 (cM.1 hx)
 |some i =>
  have hi:=ja hx;rw[Cv] at hi;have hat:=oK hx;have htn:aT l r.t=tabN l p i:=by
   rw[Ew l p (by omega),List.getD_eq_getElem?_getD,hat];rfl
  have hgc:=oJ hr.1;rw[htn] at hgc;have hcl:r.c.toNat<(tabN l p i).cols.length:=by omega
  have hcc:colC l r=(tabN l p i).cols[r.c.toNat]:=by
   unfold colC;have h1:=hr.1;unfold getC at h1 ⊢;unfold aT at htn;cases hf:bL l r.t with
   |none=>rw[hf] at h1;simp at h1
   |some tb =>
    rw[hf] at htn;simp only[Option.getD_some] at htn;subst htn;simp only;rw[if_pos ⟨hgc.1,by omega⟩,List.getElem?_eq_getElem hcl];rfl
  refine⟨i,rfl,by unfold plcI d8;rw[hx];rfl,by omega,hat,htn,hcl,hgc.1,hcc,?_⟩;rw[hcc];exact(cq (lP h (by omega))).2 _ (List.getElem_mem hcl)
def yi(l:List Table)(v:Vw)(k:Nat):List (List Nat):=(v.fs.take k).foldl (fun R f=>Eu f (colC l f.r).cells (plcI v.path f.r.t) R) (a6 l v.path)
theorem Ad(l:List Table)(v:Vw){k:Nat}(h:k<v.fs.length):yi l v (k+1)=Eu v.fs[k] (colC l v.fs[k].r).cells (plcI v.path v.fs[k].r.t) (yi l v k):=by
 unfold yi;rw[List.take_succ_eq_append_getElem h,List.foldl_append];rfl
theorem v8{l:List Table}{v:Vw}(h:je l v=0):aD l v.path=0∧v.fs.length≤8∧v.cs.length≤64∧(∀f∈v.fs,hasB l v.path f.r=true∧nU f=true)∧∀r∈v.cs,hasB l v.path r=true:=by
 unfold je at h;split at h
 ·rename_i h0;split at h
  ·rename_i h1;split at h
   ·rename_i h2;split at h
    ·rename_i h3;refine⟨h0,h1.1,h1.2,fun f hf=>⟨?_,?_⟩,fun r hr=>?_⟩
     ·have:=List.any_eq_false.1 h2.1 f hf;simpa[nhF] using this
     ·have:=List.any_eq_false.1 h3 f hf;simpa[npB] using this
     ·have:=List.any_eq_false.1 h2.2 r hr;simpa[nhR] using this
    ·cases h
   ·cases h
  ·cases h
 ·rename_i h0;exact absurd h h0
def sJ(l:List Table)(v:Vw):Int:=if je l v=0 then nT l v.path else je l v
def Ex(l:List Table)(v:Vw)(K:List (List Nat))(r:Rf):Column:=⟨(colC l r).name,K.map fun row=>(colC l r).cells.getD (row.getD (plcI v.path r.t) 0) pV⟩
def mU(l:List Table)(v:Vw):Table:=⟨(aT l v.path.start).id,(aT l v.path.start).name,v.cs.map (Ex l v (yi l v v.fs.length))⟩
def nV(l:List Table)(v:Vw):Table×Int:=if sJ l v=0 then(mU l v,0) else(Table.zero,sJ l v)
theorem sK{α:Type}(p:α→Bool)(l:List α){k:Nat}(h:k<l.length):(l.drop k).any p=(p l[k] ||(l.drop (k+1)).any p):=by
 rw[List.drop_eq_getElem_cons h,List.any_cons]
theorem wa(l:List Table)(v:Vw):Spec Tryz.prog 52 [.sl (aa l) false,.agg v.row] [] (.int .i64 (je l v)) []:=by
 have sp1:=ke l v.path;have hfl:=pU v.fs;have hrl:=bq v.cs;unfold je;refine gEn env Tryz.func52 fun Γ hN hK hML=>?_;refine gA ?_;(refine gE env hN (by kernel_rfl) ?_;conv=>whnf);refine gGs ?_;refine W.leG (mp:=[]) (bo:=[3]) (st':=⟨[(0,.sl (aa l) false),(3,.ro v.row 0)],[],[]⟩)
  (LeG.mk' rfl rfl rfl ⟨⟨_,.refl _,rfl⟩,⟨_,.bp 3 0 4 v.row none rfl rfl (by simp[Vw.row]) (.inr rfl),rfl⟩,trivial⟩ .nil rfl rfl (by rw[hK];rfl)) ?_
 by_cases h:aD l v.path=0
 ·rw[if_pos h];rw[h] at sp1;have hl1:v.path.steps.length≤100:=by have:=(aI h).2.1;omega
  by_cases h8:v.fs.length≤8∧v.cs.length≤64
  ·rw[if_pos h8];(refine g ?_;intros);refine W.leG (mp:=[]) (bo:=[]) (st':=⟨[(0,.sl (aa l) false),(3,.ro v.row 0),(30,.sl (cZ v.fs) false),(31,.int .i64 (cZ v.fs).length),(32,.int .i64 (0:Nat))],[],[]⟩)
    (LeG.mq .nil) ?_
   refine W.loopG (fun m st=>∃k:Nat,k≤v.fs.length∧v.fs.any (nhF l v.path)=(v.fs.drop k).any (nhF l v.path)∧m=v.fs.length-k∧st=⟨[(0,.sl (aa l) false),(3,.ro v.row 0),(30,.sl (cZ v.fs) false),(31,.int .i64 (cZ v.fs).length),(32,.int .i64 (k:Nat))],[],[]⟩)
    v.fs.length _ ⟨0,by omega,rfl,by omega,rfl⟩ gX ?_
   rintro m st ⟨k,hk,hany,rfl,rfl⟩;refine gT (fun hb=>?_) fun hb=>?_
   ·have hlt:k<v.fs.length:=by omega
    have hg:=li hlt;have sp2:=sI l v.path v.fs[k].r hl1;rw[sK _ _ hlt] at hany;have hnh:nhF l v.path v.fs[k]=!hasB l v.path v.fs[k].r:=rfl;rw[hnh] at hany;clear hnh;generalize v.fs[k]=f at *;refine g ?_;cases hb:hasB l v.path f.r with
    |true =>
     rw[hb] at hany;(conv=>whnf);refine gGo ?_;exact gZ ⟨k+1,by omega,by simpa using hany,rfl,rfl⟩
    |false =>
     rw[hb] at hany;rw[if_neg (fun hh=>by rw[hh.1] at hany;simp at hany)];(conv=>whnf);exact gR
   ·have hke:k=v.fs.length:=by omega
    rw[hke,List.drop_length] at hany;have hA:v.fs.any (nhF l v.path)=false:=hany;refine gGo ?_;intros;refine W.leG (mp:=[]) (bo:=[]) (st':=⟨[(0,.sl (aa l) false),(3,.ro v.row 0),(45,.sl (ap v.cs) false),(46,.int .i64 (ap v.cs).length),(47,.int .i64 (0:Nat))],[],[]⟩)
     (LeG.mq .nil) ?_
    refine W.loopG (fun m st=>∃k:Nat,k≤v.cs.length∧v.cs.any (nhR l v.path)=(v.cs.drop k).any (nhR l v.path)∧m=v.cs.length-k∧st=⟨[(0,.sl (aa l) false),(3,.ro v.row 0),(45,.sl (ap v.cs) false),(46,.int .i64 (ap v.cs).length),(47,.int .i64 (k:Nat))],[],[]⟩)
     v.cs.length _ ⟨0,by omega,rfl,by omega,rfl⟩ gX ?_
    rintro m st ⟨k,hk,hany,rfl,rfl⟩;refine gT (fun hb=>?_) fun hb=>?_
    ·have hlt:k<v.cs.length:=by omega
     have hg:=cE hlt;have sp2:=sI l v.path v.cs[k] hl1;rw[sK _ _ hlt] at hany;have hnh:nhR l v.path v.cs[k]=!hasB l v.path v.cs[k]:=rfl;rw[hnh] at hany;clear hnh;generalize v.cs[k]=r at *;refine g ?_;cases hb:hasB l v.path r with
     |true =>
      rw[hb] at hany;(conv=>whnf);refine gGo ?_;exact gZ ⟨k+1,by omega,by simpa using hany,rfl,rfl⟩
     |false =>
      rw[hb] at hany;rw[if_neg (fun hh=>by rw[hh.2] at hany;simp at hany)];(conv=>whnf);exact gR
    ·have hke:k=v.cs.length:=by omega
     rw[hke,List.drop_length] at hany;have hR:v.cs.any (nhR l v.path)=false:=hany;rw[if_pos ⟨hA,hR⟩];refine gGo ?_;intros;refine W.leG (mp:=[]) (bo:=[]) (st':=⟨[(0,.sl (aa l) false),(3,.ro v.row 0),(59,.sl (cZ v.fs) false),(60,.int .i64 (cZ v.fs).length),(61,.int .i64 (0:Nat))],[],[]⟩)
      (LeG.mq .nil) ?_
     refine W.loopG (fun m st=>∃k:Nat,k≤v.fs.length∧v.fs.any npB=(v.fs.drop k).any npB∧m=v.fs.length-k∧st=⟨[(0,.sl (aa l) false),(3,.ro v.row 0),(59,.sl (cZ v.fs) false),(60,.int .i64 (cZ v.fs).length),(61,.int .i64 (k:Nat))],[],[]⟩)
      v.fs.length _ ⟨0,by omega,rfl,by omega,rfl⟩ gX ?_
     rintro m st ⟨k,hk,hany,rfl,rfl⟩;refine gT (fun hb=>?_) fun hb=>?_
     ·have hlt:k<v.fs.length:=by omega
      have hg:=li hlt;rw[sK _ _ hlt] at hany;generalize v.fs[k]=f at *;by_cases c1:f.kind<1∨4<f.kind∨1024<f.text.length
      ·have hnp:npB f=true:=by
        unfold npB nU;split
        ·simp;omega
        ·split
         ·have:f.text≠[]:=fun e=>by rw[e] at c1;simp at c1;omega
          simpa using this
         ·rfl
       rw[hnp] at hany;rw[if_neg (fun hh=>by rw[hh] at hany;simp at hany)];by_cases d1:f.kind<1
       ·exact gR
       by_cases d2:4<f.kind
       ·exact gR
       ·exact gR
      by_cases c2:3≤f.kind∧f.text≠[]
      ·have hnp:npB f=true:=by
        unfold npB nU;rw[if_neg (by omega),if_pos (by omega)];simpa using c2.2
       have c3:=c2.2;rw[hnp] at hany;rw[if_neg (fun hh=>by rw[hh] at hany;simp at hany)];exact gR
      ·have hnp:npB f=false:=by
        unfold npB nU;by_cases d:f.kind=1∨f.kind=2
        ·rw[if_pos d];simp;omega
        ·have:f.text=[]:=Classical.byContradiction fun e=>c2 ⟨by omega,e⟩;rw[if_neg d,if_pos (by omega)];simpa using this
       rw[hnp,Bool.false_or] at hany;by_cases d:3≤f.kind
       ·have c3:f.text=[]:=Classical.byContradiction fun e=>c2 ⟨d,e⟩;(refine g ?_;intros);refine gL (fun hh=>hh c3) ?_;(conv=>whnf);refine gGo ?_;exact gZ ⟨k+1,by omega,hany,rfl,rfl⟩
       ·(refine g ?_;intros);exact gZ ⟨k+1,by omega,hany,rfl,rfl⟩
     ·have hke:k=v.fs.length:=by omega
      rw[hke,List.drop_length] at hany;have hB:v.fs.any npB=false:=hany;rw[if_pos hB];exact gR
  ·rw[if_neg h8];by_cases h9:v.fs.length≤8
   ·exact gR
   ·exact gR
 ·rw[if_neg h];generalize aD l v.path=e at *;exact gR
def iE(l:List Table)(p:Pth)(r:Rf)(row:List Nat):Cell:=(colC l r).cells.getD (row.getD (plcI p r.t) 0) pV
def allK(l:List Table)(v:Vw)(k:Nat)(row:List Nat):Bool:=(v.fs.take k).all fun f=>sH f (iE l v.path f.r row)
theorem nW(l:List Table)(v:Vw):∀k,k≤v.fs.length→yi l v k=(a6 l v.path).filter (allK l v k)
 | 0,_=>by
  show a6 l v.path=_;exact(List.filter_eq_self.2 fun _ _=>rfl).symm
 |k+1,h=>by
  have ih:=nW l v k (by omega);rw[Ad l v (show k<v.fs.length by omega),ih];unfold Eu;rw[List.filter_filter];refine List.filter_congr fun row _=>?_;unfold allK Fv;rw[List.take_succ_eq_append_getElem (show k<v.fs.length by omega),List.all_append,Bool.not_not,Bool.and_comm];simp only[List.all_cons,List.all_nil,Bool.and_true];rfl
theorem Cw(l:List Table)(v:Vw){k:Nat}(h:k<v.fs.length)(row:List Nat):allK l v (k+1) row=(allK l v k row&&sH v.fs[k] (iE l v.path v.fs[k].r row)):=by
 unfold allK;rw[List.take_succ_eq_append_getElem h,List.all_append];simp
structure RowOK (l:List Table) (p:Pth) (row:List Nat):Prop where
 len:row.length=p.steps.length+1
 lt:∀i,i≤p.steps.length→row.getD i 0<ab (tabN l p i)
theorem pW{l:List Table}{p:Pth}(hv:aD l p=0){r:Rf}(hr:hasB l p r=true){row:List Nat}(hrow:RowOK l p row):Spec Tryz.prog 55 [.sl (aa (aG l p)) false,.agg p.row,.agg r.row,.sl (af row) false] [] (.agg (iE l p r row).row) []:=by
 obtain⟨i,hx1,hx2,hx3,hx4,hx5,hx6,hx7,hx8,hx9⟩:=uV hv hr;have h4:=(aI hv).2.1;have sp:=eE p p.steps.length r.t (Nat.le_refl _) (by omega);have hz:cS p p.steps.length r.t=(i:Int):=by
  unfold cS;rw[show befT p p.steps.length=fW p from rfl,hx1]
 rw[hz] at sp;have hsl:=aC p.steps;rw[←hsl] at sp;have htg:(aa (aG l p))[i]?=some (tabN l p i).row:=by unfold aa;rw[List.getElem?_map,cJ l p hx3];rfl
 have hml:=cB l p;have htl:=aP (aG l p);have hcg:(ai (tabN l p i).cols)[r.c.toNat]?=some (colC l r).row:=by rw[aW hx6,hx8]
 have hcl:=aB (tabN l p i).cols;have hrl:=aQ row;have hi1:i<row.length:=by have:=hrow.len;omega
 have hxg:(af row)[i]?=some [.int .i64 ((row.getD i 0:Nat):Int)]:=by
  have e:row.getD i 0=row[i]:=by rw[List.getD_eq_getElem?_getD,List.getElem?_eq_getElem hi1];rfl
  rw[dy hi1,e]
 have hlt:=hrow.lt i hx3;have hce:=aF (colC l r).cells;have hcx:(aj (colC l r).cells)[row.getD i 0]?=some (iE l p r row).row:=by
  unfold iE;rw[hx2,aY (by omega),List.getD_eq_getElem?_getD (l:=(colC l r).cells),List.getElem?_eq_getElem (by omega)];rfl
 generalize iE l p r row=ce at *;generalize row.getD i 0=y at *;generalize colC l r=c at *;generalize tabN l p i=tn at *;refine gEn env Tryz.func55 fun Γ hN hK hML=>?_;(refine g ?_;intros);(refine gM ?_;conv=>whnf);exact retH rfl (.norm _) rfl rfl rfl trivial
def shC(l:List Table)(v:Vw)(K:List (List Nat)):List Column:=v.cs.map fun r=>⟨(colC l r).name,K.map (iE l v.path r)⟩
theorem Fe(l:List Table)(v:Vw)(K:List (List Nat)):(shC l v K).length=v.cs.length:=by simp[shC]
def pcC(l:List Table)(v:Vw)(C:List Column)(row:List Nat):Nat→List Column
 | 0=>C
 |q+1=>addC (pcC l v C row q) q (iE l v.path (v.cs.getD q ⟨0,0⟩) row)
theorem A0(l:List Table)(v:Vw)(C:List Column)(row:List Nat):∀q,(pcC l v C row q).length=C.length
 | 0=>rfl
 |q+1=>by show(addC _ _ _).length=_;rw[sG,A0 l v C row q]
theorem wb(l:List Table)(v:Vw)(C:List Column)(row:List Nat):∀q i,(pcC l v C row q)[i]?=(C[i]?).map fun c=>if i<q then{ c with cells:=c.cells++[iE l v.path (v.cs.getD i ⟨0,0⟩) row] } else c
 | 0,i=>by
  show C[i]?=_;cases C[i]?<;>simp
 |q+1,i=>by
  have ih:=wb l v C row q i;show(addC _ _ _)[i]?=_;unfold addC;rw[List.getElem?_modify,ih];cases C[i]? with
  |none=>split<;>rfl
  |some c =>
   by_cases e:q=i
   ·subst e;simp
   ·simp only[if_neg e,Option.map_some];by_cases h:i<q
    ·rw[if_pos h,if_pos (by omega)];rfl
    ·rw[if_neg h,if_neg (by omega)];rfl
theorem Ff(l:List Table)(v:Vw)(K:List (List Nat))(row:List Nat):pcC l v (shC l v K) row v.cs.length=shC l v (K++[row]):=by
 refine List.ext_getElem? fun i=>?_;rw[wb];unfold shC;rw[List.getElem?_map,List.getElem?_map];cases h:v.cs[i]? with
 |none=>rfl
 |some r =>
  obtain⟨h1,h2⟩:=List.getElem?_eq_some_iff.1 h;simp only[Option.map_some,List.map_append,List.map_cons,List.map_nil];rw[if_pos h1,List.getD_eq_getElem?_getD,h];rfl
theorem Ey(l:List Table)(v:Vw):shC l v []=bare (v.cs.map (colC l)):=by
 unfold shC bare;rw[List.map_map];rfl
theorem Ez(l:List Table)(v:Vw):mU l v=⟨(aT l v.path.start).id,(aT l v.path.start).name,shC l v ((a6 l v.path).filter (allK l v v.fs.length))⟩:=by
 rw[←nW l v _ (Nat.le_refl _)];rfl
theorem Cx(l:List Table)(v:Vw)(K:List (List Nat)):∀c∈shC l v K,c.cells.length=K.length:=fun c hc=>by
 unfold shC at hc;obtain⟨r,_,rfl⟩:=List.mem_map.1 hc;simp
theorem yj(l:List Table)(v:Vw):Spec Tryz.prog 22 [.sl (aa l) false,.agg v.row] [] (.tup [.agg (nV l v).1.row,.int .i64 (nV l v).2]) []:=by
 have sp1:=wa l v;unfold nV sJ;by_cases h0:je l v=0
 ·rw[if_pos h0];rw[h0] at sp1;obtain⟨hv,hf8,hc64,hfs,hcs⟩:=v8 h0;have h4:=(aI hv).2.1;have sp2:=pI l v.path;rw[Ab] at sp2;by_cases hp:nT l v.path=0
  ·rw[if_pos hp,Ez];rw[if_pos hp] at sp2;have hR4:=(Et hp).2;have sp3:=eo l v.path (by omega);have hfl:=pU v.fs;have hrl:=bq v.cs;have hmem:∀row∈a6 l v.path,RowOK l v.path row:=fun row hr=>by
    obtain⟨g1,g2⟩:=oU hr;exact⟨g1,fun i hi=>g2.lt i (by omega)⟩
   generalize a6 l v.path=L at *;have hLl:=cH L;have hg0:(aa (aG l v.path))[0]?=some (aT l v.path.start).row:=by
    unfold aa;rw[List.getElem?_map,cJ l v.path (Nat.zero_le _)];rfl
   have hml:=cB l v.path;obtain⟨TS,hTS⟩:∃TS,TS=aG l v.path:=⟨_,rfl⟩
   rw[←hTS] at sp3 hg0 hml;have htl:=aP TS;generalize aT l v.path.start=t0 at *;refine gEn env Tryz.func22 fun Γ hN hK hML=>?_;refine gA ?_;(refine gE env hN (by kernel_rfl) ?_;conv=>whnf);refine gGs ?_;refine W.leG (mp:=[(4,4)]) (bo:=[3]) (st':=⟨[(0,.sl (aa l) false),(3,.ro v.row 0),(4,.bp 4 0)],[(4,[.rows 3 [[.int .i64 0,.str [],.nils]] none])],[4]⟩)
    (LeG.mk' rfl rfl rfl ⟨⟨_,.refl _,rfl⟩,⟨_,.bp 3 0 4 v.row none rfl rfl (by simp[Vw.row]) (.inr rfl),rfl⟩,⟨_,.refl _,rfl⟩,trivial⟩ (.ci 4 .nil) rfl rfl (by rw[hK];rfl)) ?_
   (refine g ?_;intros);refine W.ownCell 10 0 2 901 2 rfl rfl rfl rfl rfl ?_;refine W.leG (mp:=[(4,4),(10,10),(901,901)]) (bo:=[]) (st':=⟨[(0,.sl (aa l) false),(3,.ro v.row 0),(4,.bp 4 0),(7,.sl (am L) false),(9,.sl (aa TS) false),(10,.bp 10 0),(54,.sl (ap v.cs) false),(55,.int .i64 (ap v.cs).length),(56,.int .i64 (0:Nat))],[(4,[.rows 3 [[.int .i64 0,.str [],.nils]] none]),(10,[.rows 3 [[.int .i64 t0.id,.str t0.name,.osl 901 0 0 (nilW ((v.cs.take 0).map (colC l))).length (nilW ((v.cs.take 0).map (colC l))).length]] none]),(901,[.rows 2 (nilW ((v.cs.take 0).map (colC l))) (some [])])],[4,10,901]⟩)
    (LeG.mq (.ci 4 (.ci 10 (.ci 901 .nil)))) ?_
   refine W.loopG (fun m st=>∃q:Nat,q≤v.cs.length∧m=v.cs.length-q∧st=⟨[(0,.sl (aa l) false),(3,.ro v.row 0),(4,.bp 4 0),(7,.sl (am L) false),(9,.sl (aa TS) false),(10,.bp 10 0),(54,.sl (ap v.cs) false),(55,.int .i64 (ap v.cs).length),(56,.int .i64 q)],[(4,[.rows 3 [[.int .i64 0,.str [],.nils]] none]),(10,[.rows 3 [[.int .i64 t0.id,.str t0.name,.osl 901 0 0 (nilW ((v.cs.take q).map (colC l))).length (nilW ((v.cs.take q).map (colC l))).length]] none]),(901,[.rows 2 (nilW ((v.cs.take q).map (colC l))) (some [])])],[4,10,901]⟩)
    v.cs.length _ ⟨0,by omega,by omega,rfl⟩ gX ?_
   rintro m st ⟨q,hq,rfl,rfl⟩;have hnl:=yh ((v.cs.take q).map (colC l));rw[List.length_map,List.length_take] at hnl;refine gT (fun hb=>?_) fun hb=>?_
   ·have hql:q<v.cs.length:=by omega
    have hgq:=cE hql;have spG:=gv l v.cs[q].t v.cs[q].c;rw[show(getC l v.cs[q].t v.cs[q].c).getD Column.zero=colC l v.cs[q] from rfl] at spG;have hsn:nilW ((v.cs.take (q+1)).map (colC l))=nilW ((v.cs.take q).map (colC l))++[[.str (colC l v.cs[q]).name,.nils]]:=by
     rw[List.take_succ_eq_append_getElem hql,List.map_append];unfold nilW;rw[List.map_append];rfl
    generalize (getC l v.cs[q].t v.cs[q].c).isSome=bb at *;generalize colC l v.cs[q]=c at *;generalize nilW ((v.cs.take q).map (colC l))=N0 at *;generalize v.cs[q]=r at *;refine g ?_;refine⟨⟨ao rfl au,rfl⟩,bc (n:=N0.length+1) (b:=40) (by omega) (by omega),.inl ⟨rfl,rfl,?_⟩⟩;(conv=>whnf);refine gGo ?_;refine⟨_,_,?_,⟨q+1,by omega,rfl,rfl⟩,[(4,4),(10,10),(901,901)],[],[],.mq (.ci 4 (.cons 10 rfl rfl (.refl _) (by rw[hsn,List.length_append];rfl) (.cons 901 rfl rfl (.refl _) (by rw[hsn];rfl) .nil)))⟩;omega
   ·have hqe:q=v.cs.length:=by omega
    rw[hqe,List.take_length];clear hnl;obtain⟨CS,hCS⟩:∃CS,CS=v.cs.map (colC l):=⟨_,rfl⟩
    have hsb:shC l v []=bare CS:=by rw[hCS];exact Ey l v
    rw[←hCS];have hCl:CS.length=v.cs.length:=by rw[hCS,List.length_map]
    have hnl:=yh CS;have hcw:=eP (bare CS);have hbl:(bare CS).length=CS.length:=by simp[bare]
    refine gGo ?_;intros;refine W.ref (Ref.reserve 902 (CS.length+2) 2 rfl) ?_;refine W.leG (mp:=[(4,4),(10,10),(901,901),(902,902)]) (bo:=[]) (st':=⟨[(0,.sl (aa l) false),(3,.ro v.row 0),(4,.bp 4 0),(7,.sl (am L) false),(9,.sl (aa TS) false),(10,.bp 10 0),(75,.sl (am L) false),(76,.int .i64 (am L).length),(77,.int .i64 (0:Nat))],[(4,[.rows 3 [[.int .i64 0,.str [],.nils]] none]),(10,[.rows 3 [[.int .i64 t0.id,.str t0.name,.osl 901 0 0 (nilW (CS)).length (nilW (CS)).length]] none]),(901,[.rows 2 (nilW (CS)) (some [])]),(902,famL (CS.length+2) fun _=>.rows 2 [] (some []))],[4,10,901,902]⟩)
     (LeG.mq (.ci 4 (.ci 10 (.ci 901 (.fam 902 rfl rfl (oB fun _ _=>rfl) .nil))))) ?_
    refine W.ref (Ref.recell 901 (cD (bare CS)) (some [902]) rfl (by omega) (v6 rfl) (fun l hl q hq=>by cases hl;simp at hq;subst hq;rfl)) ?_;rw[Cu,show(nilW CS).length=(cD (bare CS)).length by omega,←hsb];clear hcw hnl hCl hbl hsb hCS;refine W.loopG (fun m st=>∃j:Nat,j≤L.length∧m=L.length-j∧st=⟨[(0,.sl (aa l) false),(3,.ro v.row 0),(4,.bp 4 0),(7,.sl (am L) false),(9,.sl (aa TS) false),(10,.bp 10 0),(75,.sl (am L) false),(76,.int .i64 (am L).length),(77,.int .i64 j)],[(4,[.rows 3 [[.int .i64 0,.str [],.nils]] none]),(10,[.rows 3 [[.int .i64 t0.id,.str t0.name,.osl 901 0 0 (cD (shC l v ((L.take j).filter (allK l v v.fs.length)))).length (cD (shC l v ((L.take j).filter (allK l v v.fs.length)))).length]] none]),(901,[.rows 2 (cD (shC l v ((L.take j).filter (allK l v v.fs.length)))) (some [902])]),(902,famL ((shC l v ((L.take j).filter (allK l v v.fs.length))).length+2) (colF (shC l v ((L.take j).filter (allK l v v.fs.length)))))],[4,10,901,902]⟩)
     L.length _ ⟨0,by omega,by omega,rfl⟩ ⟨[(4,4),(10,10),(901,901),(902,902)],[],[],.mq (.ci 4 (.ci 10 (.ci 901 (.fam 902 rfl (rfl) (eu _ _) .nil))))⟩ ?_
    rintro m st ⟨j,hj,rfl,rfl⟩;refine gT (fun hb=>?_) fun hb=>?_
    ·have hlt:j<L.length:=by omega
     have hgj:=k8 hlt;have hrow:=hmem _ (List.getElem_mem hlt);have hft:(L.take (j+1)).filter (allK l v v.fs.length)=if allK l v v.fs.length L[j]=true then(L.take j).filter (allK l v v.fs.length)++[L[j]] else(L.take j).filter (allK l v v.fs.length):=by
      rw[List.take_succ_eq_append_getElem hlt,List.filter_append];by_cases hk:allK l v v.fs.length L[j]=true<;>simp[hk]
     have hFl:((L.take j).filter (allK l v v.fs.length)).length≤4096:=by
      have:=List.length_filter_le (allK l v v.fs.length) (L.take j);rw[List.length_take] at this;omega
     generalize (L.take j).filter (allK l v v.fs.length)=K at *;generalize L[j]=row at *;have hnr:=aQ row;(refine g ?_;intros);refine W.leG (mp:=[(4,4),(10,10),(901,901),(902,902)]) (bo:=[]) (st':=⟨[(0,.sl (aa l) false),(3,.ro v.row 0),(4,.bp 4 0),(7,.sl (am L) false),(9,.sl (aa TS) false),(10,.bp 10 0),(75,.sl (am L) false),(76,.int .i64 (am L).length),(16,.sl (af row) false),(77,.int .i64 j),(82,.sl (cZ v.fs) false),(83,.int .i64 (cZ v.fs).length),(17,.bool (allK l v 0 row)),(84,.int .i64 (0:Nat))],[(4,[.rows 3 [[.int .i64 0,.str [],.nils]] none]),(10,[.rows 3 [[.int .i64 t0.id,.str t0.name,.osl 901 0 0 (cD (shC l v K)).length (cD (shC l v K)).length]] none]),(901,[.rows 2 (cD (shC l v K)) (some [902])]),(902,famL ((shC l v K).length+2) (colF (shC l v K)))],[4,10,901,902]⟩)
      (LeG.mq (.ci 4 (.ci 10 (.ci 901 (.fam 902 rfl (rfl) (eu _ _) .nil))))) ?_
     refine W.loopG (fun m st=>∃k:Nat,k≤v.fs.length∧m=v.fs.length-k∧st=⟨[(0,.sl (aa l) false),(3,.ro v.row 0),(4,.bp 4 0),(7,.sl (am L) false),(9,.sl (aa TS) false),(10,.bp 10 0),(75,.sl (am L) false),(76,.int .i64 (am L).length),(16,.sl (af row) false),(77,.int .i64 j),(82,.sl (cZ v.fs) false),(83,.int .i64 (cZ v.fs).length),(17,.bool (allK l v k row)),(84,.int .i64 k)],[(4,[.rows 3 [[.int .i64 0,.str [],.nils]] none]),(10,[.rows 3 [[.int .i64 t0.id,.str t0.name,.osl 901 0 0 (cD (shC l v K)).length (cD (shC l v K)).length]] none]),(901,[.rows 2 (cD (shC l v K)) (some [902])]),(902,famL ((shC l v K).length+2) (colF (shC l v K)))],[4,10,901,902]⟩)
      v.fs.length _ ⟨0,by omega,by omega,rfl⟩ ⟨[(4,4),(10,10),(901,901),(902,902)],[],[],.mq (.ci 4 (.ci 10 (.ci 901 (.fam 902 rfl (rfl) (eu _ _) .nil))))⟩ ?_
     rintro m st ⟨k,hk,rfl,rfl⟩;refine gT (fun hb=>?_) fun hb=>?_
     ·have hkl:k<v.fs.length:=by omega
      have hgk:=li hkl;have spC:=pW hv (hfs _ (List.getElem_mem hkl)).1 hrow;rw[←hTS] at spC;have hsk:=Cw l v hkl row;have spK:=v7 v.fs[k] (iE l v.path v.fs[k].r row);generalize allK l v k row=ok at *;generalize iE l v.path v.fs[k].r row=ce at *;generalize v.fs[k]=f at *;cases ok with
      |false =>
       rw[Bool.false_and] at hsk;refine g ?_;refine⟨_,_,?_,⟨k+1,by omega,rfl,rfl⟩,[(4,4),(10,10),(901,901),(902,902)],[],[],LeG.mk' rfl rfl rfl (by rw[hsk];exact(by repeat' (first|exact trivial|exact⟨_,.refl _,rfl⟩|apply And.intro))) (.ci 4 (.ci 10 (.ci 901 (.fam 902 rfl (rfl) (eu _ _) .nil)))) rfl rfl (by rw[hK];rfl)⟩;omega
      |true =>
       rw[Bool.true_and] at hsk;refine g ?_;refine⟨_,_,?_,⟨k+1,by omega,rfl,rfl⟩,[(4,4),(10,10),(901,901),(902,902)],[],[],LeG.mk' rfl rfl rfl (by rw[hsk];exact(by repeat' (first|exact trivial|exact⟨_,.refl _,rfl⟩|apply And.intro))) (.ci 4 (.ci 10 (.ci 901 (.fam 902 rfl (rfl) (eu _ _) .nil)))) rfl rfl (by rw[hK];rfl)⟩;omega
     ·have hke:k=v.fs.length:=by omega
      rw[hke];cases hall:allK l v v.fs.length row with
      |false =>
       rw[if_neg (by rw[hall];decide)] at hft;refine gGo ?_;refine⟨_,_,?_,⟨j+1,by omega,rfl,rfl⟩,[(4,4),(10,10),(901,901),(902,902)],[],[],.mq (by rw[hft];exact(.ci 4 (.ci 10 (.ci 901 (.fam 902 rfl (rfl) (eu _ _) .nil)))))⟩;omega
      |true =>
       rw[if_pos hall] at hft;have hp0:pcC l v (shC l v K) row 0=shC l v K:=rfl;have hpa:=Ff l v K row;have hpl:=fun q=>A0 l v (shC l v K) row q;have hsl:=Fe l v K;have hsm:∀q,q≤v.cs.length→∀hh:q<(pcC l v (shC l v K) row q).length,((pcC l v (shC l v K) row q)[q]'hh).cells.length≤4096:=fun q hq hh=>by
        have h1:=wb l v (shC l v K) row q q;rw[List.getElem?_eq_getElem hh] at h1;have hh2:q<(shC l v K).length:=by rw[hpl] at hh;exact hh
        rw[List.getElem?_eq_getElem hh2] at h1;simp only[Option.map_some,Nat.lt_irrefl,if_false] at h1;rw[Option.some.inj h1];have h3:=Cx l v K _ (List.getElem_mem hh2);omega
       refine gGo ?_;intros;refine W.leG (mp:=[(4,4),(10,10),(901,901),(902,902)]) (bo:=[]) (st':=⟨[(0,.sl (aa l) false),(3,.ro v.row 0),(4,.bp 4 0),(7,.sl (am L) false),(9,.sl (aa TS) false),(10,.bp 10 0),(75,.sl (am L) false),(76,.int .i64 (am L).length),(16,.sl (af row) false),(77,.int .i64 j),(104,.sl (ap v.cs) false),(105,.int .i64 (ap v.cs).length),(106,.int .i64 (0:Nat))],[(4,[.rows 3 [[.int .i64 0,.str [],.nils]] none]),(10,[.rows 3 [[.int .i64 t0.id,.str t0.name,.osl 901 0 0 (cD (pcC l v (shC l v K) row 0)).length (cD (pcC l v (shC l v K) row 0)).length]] none]),(901,[.rows 2 (cD (pcC l v (shC l v K) row 0)) (some [902])]),(902,famL ((pcC l v (shC l v K) row 0).length+2) (colF (pcC l v (shC l v K) row 0)))],[4,10,901,902]⟩)
        (LeG.mq (.ci 4 (.ci 10 (.ci 901 (.fam 902 rfl (rfl) (eu _ _) .nil))))) ?_
       refine W.loopG (fun m st=>∃q:Nat,q≤v.cs.length∧m=v.cs.length-q∧st=⟨[(0,.sl (aa l) false),(3,.ro v.row 0),(4,.bp 4 0),(7,.sl (am L) false),(9,.sl (aa TS) false),(10,.bp 10 0),(75,.sl (am L) false),(76,.int .i64 (am L).length),(16,.sl (af row) false),(77,.int .i64 j),(104,.sl (ap v.cs) false),(105,.int .i64 (ap v.cs).length),(106,.int .i64 q)],[(4,[.rows 3 [[.int .i64 0,.str [],.nils]] none]),(10,[.rows 3 [[.int .i64 t0.id,.str t0.name,.osl 901 0 0 (cD (pcC l v (shC l v K) row q)).length (cD (pcC l v (shC l v K) row q)).length]] none]),(901,[.rows 2 (cD (pcC l v (shC l v K) row q)) (some [902])]),(902,famL ((pcC l v (shC l v K) row q).length+2) (colF (pcC l v (shC l v K) row q)))],[4,10,901,902]⟩)
        v.cs.length _ ⟨0,by omega,by omega,rfl⟩ ⟨[(4,4),(10,10),(901,901),(902,902)],[],[],.mq (.ci 4 (.ci 10 (.ci 901 (.fam 902 rfl (rfl) (eu _ _) .nil))))⟩ ?_
       rintro m st ⟨q,hq,rfl,rfl⟩;refine gT (fun hb=>?_) fun hb=>?_
       ·have hql:q<v.cs.length:=by omega
        have hgq:=cE hql;have spC:=pW hv (hcs _ (List.getElem_mem hql)) hrow;rw[←hTS] at spC;have hsn:pcC l v (shC l v K) row (q+1)=addC (pcC l v (shC l v K) row q) q (iE l v.path v.cs[q] row):=by
         show addC _ _ _=_;rw[List.getD_eq_getElem?_getD,List.getElem?_eq_getElem hql];rfl
        have hCl:=hpl q;rw[hsl] at hCl;have hsm1:=hsm q hq;generalize pcC l v (shC l v K) row q=C at *;generalize iE l v.path v.cs[q] row=ce at *;generalize v.cs[q]=r at *;have hal:q<C.length:=by omega
        have hsm2:=hsm1 hal;have hgw:=lQ hal;have hset:=fun n (hn:n=(C[q]).cells.length+1)=>Fc (c:=ce) hal hn;have hff:=FE (c:=ce) hal;have hfk:(famL (C.length+2) (colF C))[q]?=some (.rows 2 (aj C[q].cells) (some [])):=by rw[dM (by omega),yf hal]
        have hckl:=aF C[q].cells;have hwl:=eP C;have hwl2:(cD (addC C q ce)).length=(cD C).length:=by rw[eP,sG,eP]
        unfold colW at hgw;clear hsm1 hsm;generalize C[q]=ck at *;refine g ?_;generalize hO:cU _ 902 q=O;have hO2:O=some (2,aj ck.cells,some []):=by rw[←hO];exact fj hfk
        subst hO2;clear hO;(conv=>whnf);refine⟨⟨ao rfl au,by omega⟩,bc (n:=ck.cells.length+1) (b:=24) (by omega) (by omega),.inl ⟨rfl,rfl,?_⟩⟩;(conv=>whnf);split
        ·rename_i heq;have h9:=congrArg List.length heq;change (famL (C.length+2) (colF C)).length=1 at h9;rw[fK] at h9;omega
        rename_i k0 l0 i0 hnp;clear hnp;(conv=>whnf);refine gGo ?_;refine al (by simpa using hgw) ?_;(conv=>whnf);refine gGs ?_;refine W.ref (Ref.reks 901 (rows1:=cD (addC C k0 ce)) [902] rfl (by rw[←hset _ rfl,show(0+((k0:Nat):Int).toNat)=k0 by omega];rfl) (fun i r q v hi hq=>?_) (fun q hq=>?_)) ?_
        ·exact yg hi hq
        ·simp at hq;subst hq;rfl
        refine gGo ?_;refine⟨_,_,?_,⟨k0+1,by omega,rfl,rfl⟩,[(4,4),(10,10),(901,901),(902,902)],[],[],LeG.mq (.ci 4 (.cons 10 rfl rfl (.refl _) (by rw[hsn,hwl2];rfl) (.cons 901 rfl rfl (.refl _) (by rw[hsn];rfl) (.fam 902 rfl ?_ (eu _ _) .nil))))⟩
        ·omega
        ·rw[hsn,sG];show _=(famL _ _).set _ _;rw[wQ];refine ik fun i _=>?_;rw[hff];by_cases hik:i=k0
         ·rw[if_pos hik,if_pos hik];unfold aj;rw[List.map_append];rfl
         ·rw[if_neg hik,if_neg hik]
       ·have hqe:q=v.cs.length:=by omega
        rw[hqe,hpa];refine gGo ?_;refine⟨_,_,?_,⟨j+1,by omega,rfl,rfl⟩,[(4,4),(10,10),(901,901),(902,902)],[],[],.mq (by rw[hft];exact(.ci 4 (.ci 10 (.ci 901 (.fam 902 rfl (rfl) (eu _ _) .nil)))))⟩;omega
    ·have hje:j=L.length:=by omega
     rw[hje,List.take_length];refine gA ?_;refine gD rfl ?_;refine gG ?_;(conv=>whnf);have hrw:∀C,Table.row ⟨t0.id,t0.name,C⟩=[.int .i64 t0.id,.str t0.name,.sl (ai C) false]:=fun C=>rfl;rw[hrw];generalize shC l v (L.filter (allK l v v.fs.length))=C at *;have hcl2:(cD C).length=(ai C).length:=by rw[eP,aB]
     refine W.leG (mp:=[(4,4),(10,10),(901,901)]) (bo:=[902]) (st':=⟨[(4,.bp 4 0),(10,.bp 10 0)],[(4,[.rows 3 [[.int .i64 0,.str [],.nils]] none]),(10,[.rows 3 [[.int .i64 t0.id,.str t0.name,.osl 901 0 0 (cD C).length (cD C).length]] none]),(901,[.rows 2 (ai C) (some [])])],[4,10,901]⟩)
      (LeG.mq (.ci 4 (.ci 10 (.cons 901 (b1:=.rows 2 (ai C) (some [])) rfl rfl (Ac rfl (by omega) rfl) rfl .nil)))) ?_
     refine W.leG (mp:=[(4,4),(10,10)]) (bo:=[901]) (st':=⟨[(4,.bp 4 0),(10,.bp 10 0)],[(4,[.rows 3 [[.int .i64 0,.str [],.nils]] none]),(10,[.rows 3 [[.int .i64 t0.id,.str t0.name,.sl (ai C) false]] none])],[4,10]⟩)
      (LeG.mq (.ci 4 (.cons 10 (b1:=.rows 3 [[.int .i64 t0.id,.str t0.name,.sl (ai C) false]] none) rfl rfl (.rows _ _ _ (by repeat' (first|exact trivial|exact⟨Lent.refl _,rfl⟩|exact⟨Lent.whole rfl rfl hcl2 rfl (.inl rfl),rfl⟩|apply And.intro))) rfl .nil))) ?_
     refine gGo ?_;(refine gM ?_;conv=>whnf);exact ret0 rfl rfl rfl
  ·rw[if_neg hp] at sp2;rw[if_neg hp];generalize nT l v.path=e at *;refine gEn env Tryz.func22 fun Γ hN hK hML=>?_;refine g ?_;(refine gM ?_;conv=>whnf);exact retH rfl (.norm _) rfl rfl rfl trivial
 ·rw[if_neg h0,if_neg h0];generalize je l v=e at *;refine gEn env Tryz.func22 fun Γ hN hK hML=>?_;refine g ?_;(refine gM ?_;conv=>whnf);exact retH rfl (.norm _) rfl rfl rfl trivial
def eQ(t:Table):Prop:=∀c∈t.cols,c.cells.length=ab t
def agB(t:Table)(i:Nat)(rows:Table)(k n:Nat):Bool:=(List.range n).all fun c=>(ay rows c k).null ||fitC (ay rows c k) (ay t c i)
theorem yk(t:Table)(i:Nat)(rows:Table)(k n:Nat):agB t i rows k (n+1)=(agB t i rows k n&&((ay rows n k).null ||fitC (ay rows n k) (ay t n i))):=by
 unfold agB;rw[List.range_succ,List.all_append];simp
theorem Cy{t:Table}{i:Nat}{rows:Table}{k n m:Nat}(h:agB t i rows k (n+1)=false)(hm:n<m):agB t i rows k m=false:=by
 unfold agB at h ⊢;rw[List.all_eq_false] at h ⊢;obtain⟨c,hc,h2⟩:=h;exact⟨c,List.mem_range.2 (by have:=List.mem_range.1 hc;omega),h2⟩
def anyB(t rows:Table)(k n:Nat):Bool:=(List.range n).any fun i=>agB t i rows k rows.cols.length
theorem uW(t rows:Table)(k n:Nat):anyB t rows k (n+1)=(anyB t rows k n ||agB t n rows k rows.cols.length):=by
 unfold anyB;rw[List.range_succ,List.any_append];simp
theorem Cz{t rows:Table}{k n m:Nat}(h:anyB t rows k n=true)(hm:n≤m):anyB t rows k m=true:=by
 unfold anyB at h ⊢;rw[List.any_eq_true] at h ⊢;obtain⟨c,hc,h2⟩:=h;exact⟨c,List.mem_range.2 (by have:=List.mem_range.1 hc;omega),h2⟩
def dz(t rows:Table):Bool:=decide (t.cols.length=rows.cols.length)&&(List.range (ab rows)).all fun k=>anyB t rows k (ab t)
theorem pX{t rows:Table}{k:Nat}(hk:k<ab rows)(h:anyB t rows k (ab t)=false):dz t rows=false:=by
 unfold dz;rw[Bool.and_eq_false_iff];right;rw[List.all_eq_false];exact⟨k,List.mem_range.2 hk,by rw[h];decide⟩
theorem jE{t:Table}(h:eQ t){c i:Nat}(hc:c<t.cols.length)(hi:i<ab t):(aj (t.cols[c]).cells)[i]?=some (ay t c i).row∧(aj (t.cols[c]).cells).length=ab t:=by
 have hl:=h _ (List.getElem_mem hc);refine⟨?_,by rw[aF,hl]⟩;rw[aY (by omega)];unfold ay;rw[List.getD_eq_getElem?_getD (l:=t.cols),List.getElem?_eq_getElem hc];simp only[Option.getD_some];rw[List.getD_eq_getElem?_getD,List.getElem?_eq_getElem (by omega)];rfl
theorem yl{t rows:Table}(ht:eQ t)(hr:eQ rows)(hlen:t.cols.length=rows.cols.length){i k:Nat}(hi:i<ab t)(hk:k<ab rows):Spec Tryz.prog 148 [.agg t.row,.int .i64 i,.agg rows.row,.int .i64 k] [] (.bool (agB t i rows k rows.cols.length)) []:=by
 have hcl:=aB rows.cols;have hcl2:=aB t.cols;refine gEn env Tryz.func148 fun Γ hN hK hML=>?_;refine gA ?_;(refine gE env hN (by kernel_rfl) ?_;conv=>whnf);refine gGs ?_;refine W.leG (mp:=[]) (bo:=[4,6]) (st':=⟨[(1,.int .i64 i),(3,.int .i64 k),(4,.ro t.row 0),(6,.ro rows.row 0)],[],[]⟩)
  (LeG.mk' rfl rfl rfl ⟨⟨_,.refl _,rfl⟩,⟨_,.refl _,rfl⟩,⟨_,.bp 4 0 3 t.row none rfl rfl (by simp[Table.row]) (.inr rfl),rfl⟩,⟨_,.bp 6 0 3 rows.row none rfl rfl (by simp[Table.row]) (.inr rfl),rfl⟩,trivial⟩ .nil rfl rfl (by rw[hK];rfl)) ?_
 refine gGo ?_;intros;refine W.leG (mp:=[]) (bo:=[]) (st':=⟨[(1,.int .i64 i),(3,.int .i64 k),(4,.ro t.row 0),(6,.ro rows.row 0),(13,.sl (ai rows.cols) false),(14,.int .i64 (ai rows.cols).length),(15,.int .i64 (0:Nat))],[],[]⟩)
  (LeG.mq .nil) ?_
 refine W.loopG (fun m st=>∃c:Nat,c≤rows.cols.length∧agB t i rows k c=true∧m=rows.cols.length-c∧st=⟨[(1,.int .i64 i),(3,.int .i64 k),(4,.ro t.row 0),(6,.ro rows.row 0),(13,.sl (ai rows.cols) false),(14,.int .i64 (ai rows.cols).length),(15,.int .i64 (c:Nat))],[],[]⟩)
  rows.cols.length _ ⟨0,by omega,rfl,by omega,rfl⟩ gX ?_
 rintro m st ⟨c,hc,hag,rfl,rfl⟩;refine gT (fun hb=>?_) fun hb=>?_
 ·have hlt:c<rows.cols.length:=by omega
  have hlt2:c<t.cols.length:=by omega
  have hg1:=aW hlt;have hg2:=aW hlt2;obtain⟨hx1,hx2⟩:=jE hr hlt hk;obtain⟨hy1,hy2⟩:=jE ht hlt2 hi;have hsn:=yk t i rows k c;have hfa:=fun h=>Cy (t:=t) (i:=i) (rows:=rows) (k:=k) (n:=c) (m:=rows.cols.length) h hlt;rw[hag,Bool.true_and] at hsn;generalize rows.cols[c]=cr at *;generalize t.cols[c]=ct at *;obtain⟨xn,xt,hx⟩:∃xn xt,ay rows c k=⟨xn,xt⟩:=⟨_,_,rfl⟩
  obtain⟨yn,yt,hy⟩:∃yn yt,ay t c i=⟨yn,yt⟩:=⟨_,_,rfl⟩
  rw[hx] at hx1 hsn;rw[hy] at hy1 hsn;clear hx hy;have hxr:Cell.row ⟨xn,xt⟩=[.bool xn,.str xt]:=rfl;have hyr:Cell.row ⟨yn,yt⟩=[.bool yn,.str yt]:=rfl;rw[hxr] at hx1;rw[hyr] at hy1;refine g ?_;cases xn with
  |true =>
   have hsn2:agB t i rows k (c+1)=true:=by rw[hsn];rfl
   (conv=>whnf);refine gGo ?_;exact gZ ⟨c+1,by omega,hsn2,rfl,rfl⟩
  |false =>
   cases yn with
   |true =>
    have hsn2:agB t i rows k (c+1)=false:=by rw[hsn];rfl
    rw[hfa hsn2];(conv=>whnf);exact gR
   |false =>
    by_cases he:yt=xt
    ·have hsn2:agB t i rows k (c+1)=true:=by rw[hsn];unfold fitC;simp[he]
     (conv=>whnf);refine g ?_;refine gL (fun hh=>hh he) ?_;(conv=>whnf);refine gGo ?_;exact gZ ⟨c+1,by omega,hsn2,rfl,rfl⟩
    ·have hsn2:agB t i rows k (c+1)=false:=by rw[hsn];unfold fitC;simp[Ne.symm he]
     rw[hfa hsn2];(conv=>whnf);exact gR
 ·have hce:c=rows.cols.length:=by omega
  rw[hce] at hag;rw[hag];exact gR
theorem mV{t rows:Table}(ht:eQ t)(hr:eQ rows)(hbt:ab t≤1000000)(hbr:ab rows≤1000000):Spec Tryz.prog 99 [.agg t.row,.agg rows.row] [] (.bool (dz t rows)) []:=by
 have hcl:=aB rows.cols;have hcl2:=aB t.cols;have sp1:=jm t;have sp2:=jm rows;refine gEn env Tryz.func99 fun Γ hN hK hML=>?_;refine gA ?_;(refine gE env hN (by kernel_rfl) ?_;conv=>whnf);refine gGs ?_;refine W.leG (mp:=[]) (bo:=[2,3]) (st':=⟨[(2,.ro t.row 0),(3,.ro rows.row 0)],[],[]⟩)
  (LeG.mk' rfl rfl rfl ⟨⟨_,.bp 2 0 3 t.row none rfl rfl (by simp[Table.row]) (.inr rfl),rfl⟩,⟨_,.bp 3 0 3 rows.row none rfl rfl (by simp[Table.row]) (.inr rfl),rfl⟩,trivial⟩ .nil rfl rfl (by rw[hK];rfl)) ?_
 by_cases hlen:t.cols.length=rows.cols.length
 ·(refine g ?_;intros);refine W.leG (mp:=[]) (bo:=[]) (st':=⟨[(2,.ro t.row 0),(3,.ro rows.row 0),(16,.int .i64 (ab rows:Nat)),(17,.int .i64 (0:Nat))],[],[]⟩)
   (LeG.mq .nil) ?_
  refine W.loopG (fun m st=>∃k:Nat,k≤ab rows∧(∀k',k' < k→anyB t rows k' (ab t)=true)∧m=ab rows-k∧st=⟨[(2,.ro t.row 0),(3,.ro rows.row 0),(16,.int .i64 (ab rows:Nat)),(17,.int .i64 (k:Nat))],[],[]⟩)
   (ab rows) _ ⟨0,by omega,fun k' h=>by omega,by omega,rfl⟩ gX ?_
  rintro m st ⟨k,hk,hall,rfl,rfl⟩;refine gT (fun hb=>?_) fun hb=>?_
  ·have hkl:k<ab rows:=by omega
   have hcf:=pX (t:=t) hkl;refine gGo ?_;refine W.leG (mp:=[]) (bo:=[]) (st':=⟨[(2,.ro t.row 0),(3,.ro rows.row 0),(16,.int .i64 (ab rows:Nat)),(17,.int .i64 (k:Nat)),(5,.int .i64 k),(6,.bool (anyB t rows k 0)),(7,.int .i64 (0:Nat))],[],[]⟩)
    (LeG.mq .nil) ?_
   refine W.loopG (fun m st=>∃i:Nat,i≤ab t∧m=ab t-i∧st=⟨[(2,.ro t.row 0),(3,.ro rows.row 0),(16,.int .i64 (ab rows:Nat)),(17,.int .i64 (k:Nat)),(5,.int .i64 k),(6,.bool (anyB t rows k i)),(7,.int .i64 i)],[],[]⟩)
    (ab t) _ ⟨0,by omega,by omega,rfl⟩ gX ?_
   rintro m st ⟨i,hi,rfl,rfl⟩;have hsn:=uW t rows k i;refine gGo ?_;by_cases hil:i<ab t
   ·have spA:=yl ht hr hlen hil hkl;have htr:=fun h=>Cz (t:=t) (rows:=rows) (k:=k) (n:=i) (m:=ab t) h hi;generalize anyB t rows k i=fd at *;generalize agB t i rows k rows.cols.length=ag at *;cases fd with
    |true =>
     have htr:=htr rfl;refine gGo ?_;(refine gPC (sp1) ?_;conv=>whnf);refine gGo ?_;refine⟨_,_,?_,⟨k+1,by omega,fun k' hk'=>?_,rfl,rfl⟩,gX⟩
     ·omega
     ·by_cases e:k'=k
      ·rw[e];exact htr
      ·exact hall k' (by omega)
    |false =>
     rw[Bool.false_or] at hsn;refine gGo ?_;(refine gPC (sp1) ?_;conv=>whnf);refine gGo ?_;(refine gPC (spA) ?_;conv=>whnf);refine gGo ?_;refine⟨_,_,?_,⟨i+1,by omega,rfl,rfl⟩,[],[],[],LeG.mk' rfl rfl rfl (by rw[hsn];exact(by repeat' (first|exact trivial|exact⟨_,.refl _,rfl⟩|apply And.intro))) .nil rfl rfl (by rw[hK];rfl)⟩;omega
   ·have hie:i=ab t:=by omega
    rw[hie];cases hfd:anyB t rows k (ab t) with
    |true =>
     refine gGo ?_;(refine gPC (sp1) ?_;conv=>whnf);refine gGo ?_;refine⟨_,_,?_,⟨k+1,by omega,fun k' hk'=>?_,rfl,rfl⟩,gX⟩
     ·omega
     ·by_cases e:k'=k
      ·rw[e];exact hfd
      ·exact hall k' (by omega)
    |false =>
     rw[hcf hfd];refine gGo ?_;(refine gPC (sp1) ?_;conv=>whnf);refine gGr ?_;exact ret0 rfl rfl rfl
  ·have hke:k=ab rows:=by omega
   have hct:dz t rows=true:=by
    unfold dz;rw[decide_eq_true hlen,Bool.true_and,List.all_eq_true];intro k' hk';exact hall k' (by have:=List.mem_range.1 hk';omega)
   rw[hct];exact gR
 ·have hcf:dz t rows=false:=by
   unfold dz;rw[decide_eq_false hlen,Bool.false_and]
  rw[hcf];exact gR
theorem qn{t rows:Table}(ht:eQ t)(hr:eQ rows)(hbt:ab t≤1000000)(hbr:ab rows≤1000000):Spec Tryz.prog 23 [.agg t.row,.agg rows.row] [] (.bool (dz t rows)) []:=by
 have hcl:=aB rows.cols;have hcl2:=aB t.cols;have sp1:=dP t;have sp2:=dP rows;refine gEn env Tryz.func23 fun Γ hN hK hML=>?_;refine gA ?_;(refine gE env hN (by kernel_rfl) ?_;conv=>whnf);refine gGs ?_;refine W.leG (mp:=[]) (bo:=[2,3]) (st':=⟨[(2,.ro t.row 0),(3,.ro rows.row 0)],[],[]⟩)
  (LeG.mk' rfl rfl rfl ⟨⟨_,.bp 2 0 3 t.row none rfl rfl (by simp[Table.row]) (.inr rfl),rfl⟩,⟨_,.bp 3 0 3 rows.row none rfl rfl (by simp[Table.row]) (.inr rfl),rfl⟩,trivial⟩ .nil rfl rfl (by rw[hK];rfl)) ?_
 by_cases hlen:t.cols.length=rows.cols.length
 ·(refine g ?_;intros);refine W.leG (mp:=[]) (bo:=[]) (st':=⟨[(2,.ro t.row 0),(3,.ro rows.row 0),(20,.int .i64 (ab rows:Nat)),(21,.int .i64 (0:Nat))],[],[]⟩)
   (LeG.mq .nil) ?_
  refine W.loopG (fun m st=>∃k:Nat,k≤ab rows∧(∀k',k' < k→anyB t rows k' (ab t)=true)∧m=ab rows-k∧st=⟨[(2,.ro t.row 0),(3,.ro rows.row 0),(20,.int .i64 (ab rows:Nat)),(21,.int .i64 (k:Nat))],[],[]⟩)
   (ab rows) _ ⟨0,by omega,fun k' h=>by omega,by omega,rfl⟩ gX ?_
  rintro m st ⟨k,hk,hall,rfl,rfl⟩;refine gT (fun hb=>?_) fun hb=>?_
  ·have hkl:k<ab rows:=by omega
   have hcf:=pX (t:=t) hkl;refine gGo ?_;(refine gPC (sp1) ?_;conv=>whnf);refine gGo ?_;refine W.leG (mp:=[]) (bo:=[]) (st':=⟨[(2,.ro t.row 0),(3,.ro rows.row 0),(20,.int .i64 (ab rows:Nat)),(21,.int .i64 (k:Nat)),(5,.int .i64 k),(6,.bool (anyB t rows k 0)),(25,.int .i64 (ab t:Nat)),(26,.int .i64 (0:Nat))],[],[]⟩)
    (LeG.mq .nil) ?_
   refine W.loopG (fun m st=>∃i:Nat,i≤ab t∧m=ab t-i∧st=⟨[(2,.ro t.row 0),(3,.ro rows.row 0),(20,.int .i64 (ab rows:Nat)),(21,.int .i64 (k:Nat)),(5,.int .i64 k),(6,.bool (anyB t rows k i)),(25,.int .i64 (ab t:Nat)),(26,.int .i64 (i:Nat))],[],[]⟩)
    (ab t) _ ⟨0,by omega,by omega,rfl⟩ gX ?_
   rintro m st ⟨i,hi,rfl,rfl⟩;have hsn:=uW t rows k i;refine gT (fun hb=>?_) fun hb=>?_
   ·have hil:i<ab t:=by omega
    refine gGo ?_;intros;refine W.leG (mp:=[]) (bo:=[]) (st':=⟨[(2,.ro t.row 0),(3,.ro rows.row 0),(20,.int .i64 (ab rows:Nat)),(21,.int .i64 (k:Nat)),(5,.int .i64 k),(6,.bool (anyB t rows k i)),(25,.int .i64 (ab t:Nat)),(26,.int .i64 (i:Nat)),(7,.int .i64 i),(8,.bool (agB t i rows k (0))),(30,.sl (ai rows.cols) false),(31,.int .i64 (ai rows.cols).length),(32,.int .i64 (0:Nat))],[],[]⟩)
     (LeG.mq .nil) ?_
    refine W.loopG (fun m st=>∃c:Nat,c≤rows.cols.length∧m=rows.cols.length-c∧st=⟨[(2,.ro t.row 0),(3,.ro rows.row 0),(20,.int .i64 (ab rows:Nat)),(21,.int .i64 (k:Nat)),(5,.int .i64 k),(6,.bool (anyB t rows k i)),(25,.int .i64 (ab t:Nat)),(26,.int .i64 (i:Nat)),(7,.int .i64 i),(8,.bool (agB t i rows k (c))),(30,.sl (ai rows.cols) false),(31,.int .i64 (ai rows.cols).length),(32,.int .i64 (c:Nat))],[],[]⟩)
     rows.cols.length _ ⟨0,by omega,by omega,rfl⟩ gX ?_
    rintro m st ⟨c,hc,rfl,rfl⟩;refine gT (fun hb=>?_) fun hb=>?_
    ·have hlt:c<rows.cols.length:=by omega
     have hlt2:c<t.cols.length:=by omega
     have hg1:=aW hlt;have hg2:=aW hlt2;obtain⟨hx1,hx2⟩:=jE hr hlt hkl;obtain⟨hy1,hy2⟩:=jE ht hlt2 hil;have hsn2:=yk t i rows k c;have spF:=rL (ay rows c k) (ay t c i);generalize rows.cols[c]=cr at *;generalize t.cols[c]=ct at *;generalize fitC (ay rows c k) (ay t c i)=fb at *;obtain⟨xn,xt,hx⟩:∃xn xt,ay rows c k=⟨xn,xt⟩:=⟨_,_,rfl⟩
     obtain⟨yn,yt,hy⟩:∃yn yt,ay t c i=⟨yn,yt⟩:=⟨_,_,rfl⟩
     rw[hx] at hx1 hsn2 spF;rw[hy] at hy1 spF;clear hx hy;simp only at hsn2;have hxr:Cell.row ⟨xn,xt⟩=[.bool xn,.str xt]:=rfl;have hyr:Cell.row ⟨yn,yt⟩=[.bool yn,.str yt]:=rfl;rw[hxr] at hx1 spF;rw[hyr] at hy1 spF;generalize agB t i rows k c=ag at *;refine g ?_;cases ag with
     |false =>
      rw[Bool.false_and] at hsn2;(conv=>whnf);refine gGo ?_;refine⟨_,_,?_,⟨c+1,by omega,rfl,rfl⟩,[],[],[],LeG.mk' rfl rfl rfl (by rw[hsn2];exact(by repeat' (first|exact trivial|exact⟨_,.refl _,rfl⟩|apply And.intro))) .nil rfl rfl (by rw[hK];rfl)⟩;omega
     |true =>
      rw[Bool.true_and] at hsn2;cases xn with
      |true =>
       rw[Bool.true_or] at hsn2;(conv=>whnf);refine gGo ?_;refine⟨_,_,?_,⟨c+1,by omega,rfl,rfl⟩,[],[],[],LeG.mk' rfl rfl rfl (by rw[hsn2];exact(by repeat' (first|exact trivial|exact⟨_,.refl _,rfl⟩|apply And.intro))) .nil rfl rfl (by rw[hK];rfl)⟩;omega
      |false =>
       rw[Bool.false_or] at hsn2;(conv=>whnf);refine g ?_;refine⟨_,_,?_,⟨c+1,by omega,rfl,rfl⟩,[],[],[],LeG.mk' rfl rfl rfl (by rw[hsn2];exact(by repeat' (first|exact trivial|exact⟨_,.refl _,rfl⟩|apply And.intro))) .nil rfl rfl (by rw[hK];rfl)⟩;omega
    ·have hce:c=rows.cols.length:=by omega
     subst hce;generalize agB t i rows k rows.cols.length=ag at *;generalize anyB t rows k i=fd at *;cases fd with
     |true =>
      rw[Bool.true_or] at hsn;refine gGo ?_;refine⟨_,_,?_,⟨i+1,by omega,rfl,rfl⟩,[],[],[],LeG.mk' rfl rfl rfl (by rw[hsn];exact(by repeat' (first|exact trivial|exact⟨_,.refl _,rfl⟩|apply And.intro))) .nil rfl rfl (by rw[hK];rfl)⟩;omega
     |false =>
      rw[Bool.false_or] at hsn;refine gGo ?_;refine⟨_,_,?_,⟨i+1,by omega,rfl,rfl⟩,[],[],[],LeG.mk' rfl rfl rfl (by rw[hsn];exact(by repeat' (first|exact trivial|exact⟨_,.refl _,rfl⟩|apply And.intro))) .nil rfl rfl (by rw[hK];rfl)⟩;omega
   ·have hie:i=ab t:=by omega
    subst hie;cases hfd:anyB t rows k (ab t) with
    |true =>
     refine gGo ?_;refine⟨_,_,?_,⟨k+1,by omega,fun k' hk'=>?_,rfl,rfl⟩,gX⟩
     ·omega
     ·by_cases e:k'=k
      ·rw[e];exact hfd
      ·exact hall k' (by omega)
    |false =>
     rw[hcf hfd];exact gR
  ·have hke:k=ab rows:=by omega
   have hct:dz t rows=true:=by
    unfold dz;rw[decide_eq_true hlen,Bool.true_and,List.all_eq_true];intro k' hk';exact hall k' (by have:=List.mem_range.1 hk';omega)
   rw[hct];exact gR
 ·have hcf:dz t rows=false:=by
   unfold dz;rw[decide_eq_false hlen,Bool.false_and]
  rw[hcf];exact gR
end Go.Sx.Sp
