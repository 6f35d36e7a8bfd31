/- Views as the document tells them, and which tables contain which rows. -/
import Derived.Test.YthlokmbefpjmgaaGreatDoorExTwo
import Derived.Test.YthlokmbefpjmgaaGreatDoorRtOne
import Derived.Test.YthlokmbefpjmgaaGreatDoorJSix
import Derived.Test.YthlokmbefpjmgaaGreatDoorSxFive
import Derived.Test.YthlokmbefpjmgaaGreatDoorSxFour
set_option linter.unusedVariables false
set_option linter.unusedSimpArgs false
namespace Go.Sx.Sp
open Go Go.Sx Go.Proofs
attribute [local irreducible] GoodW famL
structure Flt where
 r:Rf
 kind:Int
 text:Str
 deriving DecidableEq
structure Vw where
 path:Pth
 fs:List Flt
 cs:List Rf
def Flt.row (f:Flt):List V:=[.int .i64 f.r.t,.int .i64 f.r.c,.int .i64 f.kind,.str f.text]
def fltRows (l:List Flt):List (List V):=l.map Flt.row
def Vw.row (v:Vw):List V:=[.int .i64 v.path.start,.sl (stpRows v.path.steps) false,.sl (fltRows v.fs) false,.sl (rfRows v.cs) false]
def tabsI (p:Pth):List Int:=befT p p.steps.length
def hasB (l:List Table) (p:Pth) (r:Rf):Bool:=(getC l r.t r.c).isSome&&decide (r.t∈tabsI p)
def cell0:Cell:=⟨false,[]⟩
def colC (l:List Table) (r:Rf):Column:=(getC l r.t r.c).getD Column.zero
def plcI (p:Pth) (t:Int):Nat:=placeI (tabsI p) t
theorem tabsI_len (p:Pth):(tabsI p).length=p.steps.length+1:=befT_len p (Nat.le_refl _)
theorem tabN_bef (l:List Table) (p:Pth) {i:Nat}(h:i≤p.steps.length):tabN l p i=tabOf l ((tabsI p).getD i 0):=by
 cases i with
 | zero=>rfl
 | succ q =>
  have hq:q<p.steps.length:=by omega
  have:(tabsI p).getD (q+1) 0=(stpAt p q).tt:=by
   unfold tabsI befT stpAt;rw [List.take_length];simp [hq]
  rw [this];rfl
theorem bef_nodup {l:List Table}{p:Pth}(h:validE l p=0):∀ j,j≤p.steps.length→(befT p j).Nodup
 | 0,_=>by simp [befT]
 | j+1,hj=>by
  have hjl:j<p.steps.length:=by omega
  have hsf:=pathB_step (valid_path h).2.2 hjl;rw [befT_snoc p hjl,List.nodup_append];refine ⟨bef_nodup h j (by omega),by simp,fun a ha b hb=>?_⟩;rw [List.mem_singleton.1 hb];intro e;have:=hsf.new;rw [show stpAt p j=p.steps[j] by simp [stpAt,hjl]] at this;exact this (e ▸ ha)
theorem has_facts {l:List Table}{p:Pth}(h:validE l p=0) {r:Rf}(hr:hasB l p r=true):∃ i,ixI r.t (tabsI p)=some i∧plcI p r.t=i∧i≤p.steps.length∧(tabsI p)[i]?=some r.t∧tabOf l r.t=tabN l p i∧∃ hc:r.c.toNat<(tabN l p i).cols.length,0≤r.c∧colC l r=(tabN l p i).cols[r.c.toNat]∧(colC l r).cells.length=rowsN (tabN l p i):=by
 unfold hasB at hr;rw [Bool.and_eq_true,decide_eq_true_iff] at hr;cases hx:ixI r.t (tabsI p) with
 | none=>exact absurd hr.2 (ixI_none.1 hx)
 | some i =>
  have hi:=ixI_lt hx;rw [tabsI_len] at hi;have hat:=ixI_at hx;have htn:tabOf l r.t=tabN l p i:=by
   rw [tabN_bef l p (by omega),List.getD_eq_getElem?_getD,hat];rfl
  have hgc:=getC_some hr.1;rw [htn] at hgc;have hcl:r.c.toNat<(tabN l p i).cols.length:=by omega
  have hcc:colC l r=(tabN l p i).cols[r.c.toNat]:=by
   unfold colC;have h1:=hr.1;unfold getC at h1 ⊢;unfold tabOf at htn;cases hf:findT l r.t with
   | none=>rw [hf] at h1;simp at h1
   | some tb =>
    rw [hf] at htn;simp only [Option.getD_some] at htn;subst htn;simp only;rw [if_pos ⟨hgc.1,by omega⟩,List.getElem?_eq_getElem hcl];rfl
  refine ⟨i,rfl,by unfold plcI placeI;rw [hx];rfl,by omega,hat,htn,hcl,hgc.1,hcc,?_⟩;rw [hcc];exact (validB_rows (tabN_ok h (by omega))).2 _ (List.getElem_mem hcl)
def cellV (l:List Table) (p:Pth) (r:Rf) (row:List Nat):Cell:=(colC l r).cells.getD (row.getD (plcI p r.t) 0) cell0
structure RowOK (l:List Table) (p:Pth) (row:List Nat):Prop where
 len:row.length=p.steps.length+1
 lt:∀ i,i≤p.steps.length→row.getD i 0<rowsN (tabN l p i)
def RectT (t:Table):Prop:=∀ c∈t.cols,c.cells.length=rowsN t
def agB (t:Table) (i:Nat) (rows:Table) (k n:Nat):Bool:=(List.range n).all fun c=>(cellT rows c k).null||fitC (cellT rows c k) (cellT t c i)
theorem agB_succ (t:Table) (i:Nat) (rows:Table) (k n:Nat):agB t i rows k (n+1)=(agB t i rows k n&&((cellT rows n k).null||fitC (cellT rows n k) (cellT t n i))):=by
 unfold agB;rw [List.range_succ,List.all_append];simp
theorem agB_false {t:Table}{i:Nat}{rows:Table}{k n m:Nat}(h:agB t i rows k (n+1)=false) (hm:n<m):agB t i rows k m=false:=by
 unfold agB at h ⊢;rw [List.all_eq_false] at h ⊢;obtain ⟨c,hc,h2⟩:=h;exact ⟨c,List.mem_range.2 (by have:=List.mem_range.1 hc;omega),h2⟩
def anyB (t rows:Table) (k n:Nat):Bool:=(List.range n).any fun i=>agB t i rows k rows.cols.length
theorem anyB_succ (t rows:Table) (k n:Nat):anyB t rows k (n+1)=(anyB t rows k n||agB t n rows k rows.cols.length):=by
 unfold anyB;rw [List.range_succ,List.any_append];simp
theorem anyB_true {t rows:Table}{k n m:Nat}(h:anyB t rows k n=true) (hm:n≤m):anyB t rows k m=true:=by
 unfold anyB at h ⊢;rw [List.any_eq_true] at h ⊢;obtain ⟨c,hc,h2⟩:=h;exact ⟨c,List.mem_range.2 (by have:=List.mem_range.1 hc;omega),h2⟩
def contB (t rows:Table):Bool:=decide (t.cols.length=rows.cols.length)&&(List.range (rowsN rows)).all fun k=>anyB t rows k (rowsN t)
theorem contB_false {t rows:Table}{k:Nat}(hk:k<rowsN rows) (h:anyB t rows k (rowsN t)=false):contB t rows=false:=by
 unfold contB;rw [Bool.and_eq_false_iff];right;rw [List.all_eq_false];exact ⟨k,List.mem_range.2 hk,by rw [h];decide⟩
theorem cellT_get {t:Table}(h:RectT t) {c i:Nat}(hc:c<t.cols.length) (hi:i<rowsN t):(cellRows (t.cols[c]).cells)[i]?=some (cellT t c i).row∧(cellRows (t.cols[c]).cells).length=rowsN t:=by
 have hl:=h _ (List.getElem_mem hc);refine ⟨?_,by rw [cellRows_len,hl]⟩;rw [cellRows_get (by omega)];unfold cellT;rw [List.getD_eq_getElem?_getD (l:=t.cols),List.getElem?_eq_getElem hc];simp only [Option.getD_some];rw [List.getD_eq_getElem?_getD,List.getElem?_eq_getElem (by omega)];rfl
set_option maxHeartbeats 8000000 in
theorem agrees_spec {t rows:Table}(ht:RectT t) (hr:RectT rows) (hlen:t.cols.length=rows.cols.length) {i k:Nat}(hi:i<rowsN t) (hk:k<rowsN rows):Spec Tryz.prog 148 [.agg t.row,.int .i64 i,.agg rows.row,.int .i64 k] [] (.bool (agB t i rows k rows.cols.length)) []:=by
 have hcl:=colRows_len rows.cols;have hcl2:=colRows_len t.cols;refine gEn env Tryz.func148 fun Γ hN hK hML=>?_;refine gA ?_;(refine gE env hN (by kernel_rfl) ?_;conv=>whnf);refine gGs ?_;refine W.leG (mp:=[]) (bo:=[4,6]) (st':=⟨[(1,.int .i64 i),(3,.int .i64 k),(4,.ro t.row 0),(6,.ro rows.row 0)],[],[]⟩)
  (LeG.mk' rfl rfl rfl ⟨⟨_,.refl _,rfl⟩,⟨_,.refl _,rfl⟩,⟨_,.bp 4 0 3 t.row none rfl rfl (by simp [Table.row]) (.inr rfl),rfl⟩,⟨_,.bp 6 0 3 rows.row none rfl rfl (by simp [Table.row]) (.inr rfl),rfl⟩,trivial⟩ .nil rfl rfl (by rw [hK];rfl)) ?_
 refine gGo ?_;intros;refine W.leG (mp:=[]) (bo:=[]) (st':=⟨[(1,.int .i64 i),(3,.int .i64 k),(4,.ro t.row 0),(6,.ro rows.row 0),(13,.sl (colRows rows.cols) false),(14,.int .i64 (colRows rows.cols).length),(15,.int .i64 (0:Nat))],[],[]⟩)
  (LeG.mq .nil) ?_
 refine W.loopG (fun m st=>∃ c:Nat,c≤rows.cols.length∧agB t i rows k c=true∧m=rows.cols.length-c∧st=⟨[(1,.int .i64 i),(3,.int .i64 k),(4,.ro t.row 0),(6,.ro rows.row 0),(13,.sl (colRows rows.cols) false),(14,.int .i64 (colRows rows.cols).length),(15,.int .i64 (c:Nat))],[],[]⟩)
  rows.cols.length _ ⟨0,by omega,rfl,by omega,rfl⟩ gX ?_
 rintro m st ⟨c,hc,hag,rfl,rfl⟩;refine gT (fun hb=>?_) fun hb=>?_
 ·have hlt:c<rows.cols.length:=by omega
  have hlt2:c<t.cols.length:=by omega
  have hg1:=colRows_get hlt;have hg2:=colRows_get hlt2;obtain ⟨hx1,hx2⟩:=cellT_get hr hlt hk;obtain ⟨hy1,hy2⟩:=cellT_get ht hlt2 hi;have hsn:=agB_succ t i rows k c;have hfa:=fun h=>agB_false (t:=t) (i:=i) (rows:=rows) (k:=k) (n:=c) (m:=rows.cols.length) h hlt;rw [hag,Bool.true_and] at hsn;generalize rows.cols[c]=cr at *;generalize t.cols[c]=ct at *;obtain ⟨xn,xt,hx⟩:∃ xn xt,cellT rows c k=⟨xn,xt⟩:=⟨_,_,rfl⟩
  obtain ⟨yn,yt,hy⟩:∃ yn yt,cellT t c i=⟨yn,yt⟩:=⟨_,_,rfl⟩
  rw [hx] at hx1 hsn;rw [hy] at hy1 hsn;clear hx hy;have hxr:Cell.row ⟨xn,xt⟩=[.bool xn,.str xt]:=rfl;have hyr:Cell.row ⟨yn,yt⟩=[.bool yn,.str yt]:=rfl;rw [hxr] at hx1;rw [hyr] at hy1;refine g ?_;cases xn with
  | true =>
   have hsn2:agB t i rows k (c+1)=true:=by rw [hsn];rfl
   (conv=>whnf);refine gGo ?_;exact gZ ⟨c+1,by omega,hsn2,rfl,rfl⟩
  | false =>
   cases yn with
   | true =>
    have hsn2:agB t i rows k (c+1)=false:=by rw [hsn];rfl
    rw [hfa hsn2];(conv=>whnf);exact gR
   | false =>
    by_cases he:yt=xt
    ·have hsn2:agB t i rows k (c+1)=true:=by rw [hsn];unfold fitC;simp [he]
     (conv=>whnf);refine g ?_;refine gL (fun hh=>hh he) ?_;(conv=>whnf);refine gGo ?_;exact gZ ⟨c+1,by omega,hsn2,rfl,rfl⟩
    ·have hsn2:agB t i rows k (c+1)=false:=by rw [hsn];unfold fitC;simp [Ne.symm he]
     rw [hfa hsn2];(conv=>whnf);exact gR
 ·have hce:c=rows.cols.length:=by omega
  rw [hce] at hag;rw [hag];exact gR
set_option maxHeartbeats 8000000 in
theorem contains_rows_spec {t rows:Table}(ht:RectT t) (hr:RectT rows) (hbt:rowsN t≤1000000) (hbr:rowsN rows≤1000000):Spec Tryz.prog 99 [.agg t.row,.agg rows.row] [] (.bool (contB t rows)) []:=by
 have hcl:=colRows_len rows.cols;have hcl2:=colRows_len t.cols;have sp1:=rows_spec t;have sp2:=rows_spec rows;refine gEn env Tryz.func99 fun Γ hN hK hML=>?_;refine gA ?_;(refine gE env hN (by kernel_rfl) ?_;conv=>whnf);refine gGs ?_;refine W.leG (mp:=[]) (bo:=[2,3]) (st':=⟨[(2,.ro t.row 0),(3,.ro rows.row 0)],[],[]⟩)
  (LeG.mk' rfl rfl rfl ⟨⟨_,.bp 2 0 3 t.row none rfl rfl (by simp [Table.row]) (.inr rfl),rfl⟩,⟨_,.bp 3 0 3 rows.row none rfl rfl (by simp [Table.row]) (.inr rfl),rfl⟩,trivial⟩ .nil rfl rfl (by rw [hK];rfl)) ?_
 by_cases hlen:t.cols.length=rows.cols.length
 ·(refine g ?_;intros);refine W.leG (mp:=[]) (bo:=[]) (st':=⟨[(2,.ro t.row 0),(3,.ro rows.row 0),(16,.int .i64 (rowsN rows:Nat)),(17,.int .i64 (0:Nat))],[],[]⟩)
   (LeG.mq .nil) ?_
  refine W.loopG (fun m st=>∃ k:Nat,k≤rowsN rows∧(∀ k',k' < k→anyB t rows k' (rowsN t)=true)∧m=rowsN rows-k∧st=⟨[(2,.ro t.row 0),(3,.ro rows.row 0),(16,.int .i64 (rowsN rows:Nat)),(17,.int .i64 (k:Nat))],[],[]⟩)
   (rowsN rows) _ ⟨0,by omega,fun k' h=>by omega,by omega,rfl⟩ gX ?_
  rintro m st ⟨k,hk,hall,rfl,rfl⟩;refine gT (fun hb=>?_) fun hb=>?_
  ·have hkl:k<rowsN rows:=by omega
   have hcf:=contB_false (t:=t) hkl;refine gGo ?_;refine W.leG (mp:=[]) (bo:=[]) (st':=⟨[(2,.ro t.row 0),(3,.ro rows.row 0),(16,.int .i64 (rowsN rows:Nat)),(17,.int .i64 (k:Nat)),(5,.int .i64 k),(6,.bool (anyB t rows k 0)),(7,.int .i64 (0:Nat))],[],[]⟩)
    (LeG.mq .nil) ?_
   refine W.loopG (fun m st=>∃ i:Nat,i≤rowsN t∧m=rowsN t-i∧st=⟨[(2,.ro t.row 0),(3,.ro rows.row 0),(16,.int .i64 (rowsN rows:Nat)),(17,.int .i64 (k:Nat)),(5,.int .i64 k),(6,.bool (anyB t rows k i)),(7,.int .i64 i)],[],[]⟩)
    (rowsN t) _ ⟨0,by omega,by omega,rfl⟩ gX ?_
   rintro m st ⟨i,hi,rfl,rfl⟩;have hsn:=anyB_succ t rows k i;refine gGo ?_;by_cases hil:i<rowsN t
   ·have spA:=agrees_spec ht hr hlen hil hkl;have htr:=fun h=>anyB_true (t:=t) (rows:=rows) (k:=k) (n:=i) (m:=rowsN t) h hi;generalize anyB t rows k i=fd at *;generalize agB t i rows k rows.cols.length=ag at *;cases fd with
    | true =>
     have htr:=htr rfl;refine gGo ?_;(refine gPC (sp1) ?_;conv=>whnf);refine gGo ?_;refine ⟨_,_,?_,⟨k+1,by omega,fun k' hk'=>?_,rfl,rfl⟩,gX⟩
     ·omega
     ·by_cases e:k'=k
      ·rw [e];exact htr
      ·exact hall k' (by omega)
    | false =>
     rw [Bool.false_or] at hsn;refine gGo ?_;(refine gPC (sp1) ?_;conv=>whnf);refine gGo ?_;(refine gPC (spA) ?_;conv=>whnf);refine gGo ?_;refine ⟨_,_,?_,⟨i+1,by omega,rfl,rfl⟩,[],[],[],LeG.mk' rfl rfl rfl (by rw [hsn];exact (by repeat' (first | exact trivial | exact ⟨_,.refl _,rfl⟩ | apply And.intro))) .nil rfl rfl (by rw [hK];rfl)⟩;omega
   ·have hie:i=rowsN t:=by omega
    rw [hie];cases hfd:anyB t rows k (rowsN t) with
    | true =>
     refine gGo ?_;(refine gPC (sp1) ?_;conv=>whnf);refine gGo ?_;refine ⟨_,_,?_,⟨k+1,by omega,fun k' hk'=>?_,rfl,rfl⟩,gX⟩
     ·omega
     ·by_cases e:k'=k
      ·rw [e];exact hfd
      ·exact hall k' (by omega)
    | false =>
     rw [hcf hfd];refine gGo ?_;(refine gPC (sp1) ?_;conv=>whnf);refine gGr ?_;exact ret0 rfl rfl rfl
  ·have hke:k=rowsN rows:=by omega
   have hct:contB t rows=true:=by
    unfold contB;rw [decide_eq_true hlen,Bool.true_and,List.all_eq_true];intro k' hk';exact hall k' (by have:=List.mem_range.1 hk';omega)
   rw [hct];exact gR
 ·have hcf:contB t rows=false:=by
   unfold contB;rw [decide_eq_false hlen,Bool.false_and]
  rw [hcf];exact gR
end Go.Sx.Sp
