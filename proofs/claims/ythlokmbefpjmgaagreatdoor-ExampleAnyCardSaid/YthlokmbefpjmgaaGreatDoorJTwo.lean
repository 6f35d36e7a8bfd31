/- Contracts of the plan of a path, and of valid paths. -/
import Derived.Test.YthlokmbefpjmgaaGreatDoorJOne
import Derived.Test.YthlokmbefpjmgaaGreatDoorSxFive
import Derived.RangeFuncCalls
import Derived.Test.YthlokmbefpjmgaaGreatDoorSxFour
set_option linter.unusedVariables false
set_option linter.unusedSimpArgs false
namespace Go.Sx.Sp
open Go Go.Sx Go.Proofs
attribute [local irreducible] GoodW famL
def stepD (R:List Nod) (i:Nat):List Nod:=match R[i]? with
 | some n=>R.set i (doneR R i n)
 | none=>R
def runD (R:List Nod) (N:Nat):Nat→List Nod
 | 0=>R
 | k+1=>stepD (runD R N k) (N-1-k)
theorem stepD_len (R:List Nod) (i:Nat):(stepD R i).length=R.length:=by unfold stepD;split<;>simp
theorem runD_len (R:List Nod) (N:Nat):∀ k,(runD R N k).length=R.length
 | 0=>rfl
 | k+1=>by rw [runD,stepD_len,runD_len R N k]
structure CntOK (R:List Nod) (i:Nat):Prop where
 lt:i<R.length
 few:R.length≤100
 v:∀ c∈R[i].t.cols,c.cells.length=rowsN R[i].t
 rows:rowsN R[i].t≤4096
 kl:R[i].kids.length≤100
 kids:∀ k∈R[i].kids,∃ (h:k<R.length),i≠k∧R[k].fr<R[i].t.cols.length∧∃ d,R[k].done=some d
 own:i≠0→R[i].own<R[i].t.cols.length
 bnd:∀ r,r<rowsN R[i].t→∀ j,j≤R[i].kids.length→0≤cntR ((kidsOf R R[i]).take j) R[i].t r∧cntR ((kidsOf R R[i]).take j) R[i].t r≤1125899906842624
def planB (N:Nat):Blk:=.rows 1 [[.osl 1 0 0 N N]] none
theorem count_spec2 (R:List Nod) (i N:Nat) (h:CntOK R i) (hN:N=R.length):Spec Tryz.prog 139 [.bp 0 0,.int .i64 i] [(0,planB N),(1,.rows 9 (nodRows R) (some []))] (.tup []) [(0,planB N),(1,.rows 9 (nodRows (stepD R i)) (some []))]:=by
 have sp:=count_spec R i h.lt h.few h.v h.rows h.kl h.kids h.own h.bnd;have hlt:=h.lt;have e:stepD R i=R.set i (doneR R i (R[i])):=by
  unfold stepD;rw [List.getElem?_eq_getElem h.lt]
 rw [nodRows_len,←hN] at sp;rw [e];exact sp
theorem HRel.turn [Glob] {Fr:Nat→Prop}{m:MM}{h:List (Nat×Blk)}{W W':World}(hh:HRel Fr m h W) (hz:W.heap.size≤W'.heap.size) (hs:∀ c,c<W.heap.size→¬ Fr c→W'.heap[c]?=W.heap[c]?)
  (hp:∀ b e n,W.shape? b=some (e,n)→W'.shape? b=some (e,n)):HRel Fr m h W':=by
 have hd:∀ b,b<W.heap.size→¬ FrO Fr m b→W'.heap[b]?=W.heap[b]?∧¬ FrO Fr m b:=fun b hb hn=>⟨hs b hb fun h=>hn (.inl h),hn⟩
 refine ⟨hh.dom,fun k i blk hb=>?_,hh.inj,fun k i x hx hn=>⟨(hh.fr k i x hx hn).1,Nat.lt_of_lt_of_le (hh.fr k i x hx hn).2 hz⟩,hh.within,hh.glob.tr hd hz⟩;obtain ⟨x,hx,hB⟩:=hh.blk k i blk hb;refine ⟨x,hx,BRel.on (U:=fun _=>true) hd hz hp (fun k _ i x' hx'=>⟨x',hx',.inl rfl⟩) ?_ (fun hn=>hs x.b (hh.fr k i x hx hn).2 (hh.fr k i x hx hn).1) hB⟩;exact Blk.within_mono (fun _ _=>rfl) (show blk.within fun _=>true by
  cases blk with
  | rows sz rs ks=>cases ks with
   | none=>exact fun _ _ _ _ _ _ _ _=>rfl
   | some l=>exact fun _ _=>rfl
  | map es c ks=>cases ks with
   | none=>exact fun _ _ _ _ _ _ _=>rfl
   | some l=>exact fun _ _=>rfl
  | iter s i c seen=>rfl
  | gone=>trivial)
theorem HRel.less [Glob] {Fr Fr':Nat→Prop}{m:MM}{h:List (Nat×Blk)}{W:World}(hh:HRel Fr m h W) (hs:∀ b,Fr' b→Fr b):HRel Fr' m h W:=by
 have hd:∀ b,b<W.heap.size→¬ FrO Fr m b→W.heap[b]?=W.heap[b]?∧¬ FrO Fr' m b:=fun b hb hn=>⟨rfl,fun h=>hn (h.imp (hs b) id)⟩
 refine ⟨hh.dom,fun k i blk hb=>?_,hh.inj,fun k i x hx hn=>⟨fun h=>(hh.fr k i x hx hn).1 (hs _ h),(hh.fr k i x hx hn).2⟩,hh.within,hh.glob.tr hd (Nat.le_refl _)⟩;obtain ⟨x,hx,hB⟩:=hh.blk k i blk hb;refine ⟨x,hx,BRel.on (U:=fun _=>true) hd (Nat.le_refl _) (fun _ _ _ h=>h) (fun k _ i x' hx'=>⟨x',hx',.inl rfl⟩) ?_ (fun _=>rfl) hB⟩;cases blk with
 | rows sz rs ks=>cases ks with
  | none=>exact fun _ _ _ _ _ _ _ _=>rfl
  | some l=>exact fun _ _=>rfl
 | map es c ks=>cases ks with
  | none=>exact fun _ _ _ _ _ _ _=>rfl
  | some l=>exact fun _ _=>rfl
 | iter s i c seen=>rfl
 | gone=>trivial
def ptr (b o:Nat):Value:=.pointer (some ⟨b,o,none⟩)
def endSt (N:Nat) (R:List Nod):St:=⟨[(5,.bp 5 0),(108,.fn 182 [.bp 70 0])],[(5,[.rows 1 [[.bp 16 0]] none]),(16,[.rows 1 [[.osl 90 0 0 N N]] none]),(90,[.rows 9 (nodRows R) (some [])]),(70,[.rows 1 [[.osl 90 0 0 N N]] none])],[5,16,90,70]⟩
structure Laid (Γ:Ctx) (m:MM) (w:World) (a:Act) (N:Nat) (x5 x16 x90 x70:MB) (cap:Nat):Prop where
 m5:m 5 0=some x5
 m16:m 16 0=some x16
 m90:m 90 0=some x90
 m70:m 70 0=some x70
 n5:x5.nil=false
 n16:x16.nil=false
 n90:x90.nil=false
 n70:x70.nil=false
 v5:a.tmps.getD 5 undef=ptr x5.b x5.base
 v108:a.tmps.getD 108 undef=.func (.func 182) #[] #[ptr x70.b x70.base]
 c5:w.cell? ⟨x5.b,x5.base,none⟩=some (ptr x16.b x16.base)
 c70:w.cell? ⟨x70.b,x70.base,none⟩=some (.slice (some ⟨x90.b,x90.base,none⟩) N cap)
theorem laid {Γ:Ctx}{m:MM}{w:World}{a:Act}{N:Nat}{R:List Nod}(hr:Rel Γ m (endSt N R).den a w) (hN:N=R.length) (h1:1≤N):∃ x5 x16 x90 x70 cap,Laid Γ m w a N x5 x16 x90 x70 cap:=by
 have hv5:VRel w (Forb Γ m) m (.bp 5 0) (a.tmps.getD 5 undef):=hr.env 5;have hv108:VRel w (Forb Γ m) m (.fn 182 [.bp 70 0]) (a.tmps.getD 108 undef):=hr.env 108;obtain ⟨x5,m5,n5,e5,B5⟩:=hr.bp_inv (k:=5) (sz:=1) (row:=[.bp 16 0]) (ks:=none) hv5 rfl;obtain ⟨_,_,c16,g1,_,g2⟩:=B5.cell 0 _ 0 _ rfl rfl;obtain ⟨x16,m16,n16,e16,B16⟩:=hr.bp_inv (k:=16) (sz:=1) (row:=[.osl 90 0 0 N N]) (ks:=none) g2 rfl;have:∃ c70',a.tmps.getD 108 undef=.func (.func 182) #[] #[c70']∧VRel w (Forb Γ m) m (.bp 70 0) c70':=by
  generalize a.tmps.getD 108 undef=v at hv108;cases hv108 with
  | fn f cs c hl hv =>
   match c,hl with
   | [c0],_=>exact ⟨c0,rfl,hv 0 _ c0 rfl rfl⟩
 obtain ⟨c70',e108,hv70⟩:=this;obtain ⟨x70,m70,n70,e70,B70⟩:=hr.bp_inv (k:=70) (sz:=1) (row:=[.osl 90 0 0 N N]) (ks:=none) hv70 rfl;obtain ⟨_,_,c90,k1,_,k2⟩:=B70.cell 0 _ 0 _ rfl rfl;obtain ⟨x90,m90,B90,hle,hos⟩:=hr.osl_inv (k:=90) (i:=0) (sz:=9) (rows:=nodRows R) (ks:=some []) k2 rfl (by rw [nodRows_len];exact hN);rcases hos with ⟨h0,_⟩ | ⟨n90,cap,e1,n1,rfl,_⟩
 ·omega
 ·refine ⟨x5,x16,x90,x70,cap,m5,m16,m90,m70,n5,n16,n90,n70,e5,?_,?_,?_⟩
  ·rw [e108,e70];rfl
  ·rw [show (⟨x5.b,x5.base,none⟩:Addr)=⟨x5.b,x5.base+0*1+0,none⟩ by simp];rw [g1,e16];rfl
  ·rw [show (⟨x70.b,x70.base,none⟩:Addr)=⟨x70.b,x70.base+0*1+0,none⟩ by simp];rw [k1];simp
def NFr (Γ:Ctx) (w:World) (x5 x70:MB) (b:Nat):Prop:=Γ.Fr b∨b=w.heap.size∨b=w.heap.size+1∨b=x5.b∨b=x70.b
def nodH (N:Nat) (R:List Nod):List (Nat×Blk):=[(0,planB N),(1,.rows 9 (nodRows R) (some []))]
structure Cnt (Γ:Ctx) (w:World) (N:Nat) (x5 x16 x90 x70:MB) (R:List Nod) (W:World):Prop where
 rel:∃ mc:MM,HRel (NFr Γ w x5 x70) mc (nodH N R) W∧mc 0 0=some x16∧mc 1 0=some x90
 os:W.os=w.os
 tape:W.tape=w.tape
 output:W.output=w.output
 size:w.heap.size≤W.heap.size
 block:∀ b,b<w.heap.size→b≠x16.b→b≠x90.b→W.heap[b]?=w.heap[b]?
 shape:∀ b e n,w.shape? b=some (e,n)→W.shape? b=some (e,n)
 d:W.shape? w.heap.size=none
 l:W.shape? (w.heap.size+1)=none
theorem nodH_look (N:Nat) (R:List Nod) (k:Nat):lookH (heapL (nodH N R)) k=if k=0 then [planB N] else if k=1 then [.rows 9 (nodRows R) (some [])] else []:=by
 rw [lookH_heapL];unfold nodH;simp only [look_cons];by_cases h0:k=0
 ·simp [h0]
 ·by_cases h1:k=1
  ·simp [h1]
  ·simp [h0,h1,look]
section
variable {Γ:Ctx}{m:MM}{w:World}{a:Act}{N:Nat}{R R0:List Nod}{x5 x16 x90 x70:MB}{cap:Nat}
theorem cnt_init (hr:Rel Γ m (endSt N R).den a w) (hL:Laid Γ m w a N x5 x16 x90 x70 cap):Cnt Γ w N x5 x16 x90 x70 R w:=by
 let ρ:Nat→Option Nat:=fun s=>if s=16 then some 0 else if s=90 then some 1 else none
 let mc:MM:=fun q i=>if q=0 then m 16 i else if q=1 then m 90 i else none
 have hm:∀ s s',ρ s=some s'→∀ i x',mc s' i=some x'→∃ x,m s i=some x∧Adv x x':=fun s s' hs i x' hx'=>by
  simp only [ρ] at hs;split at hs
  ·rename_i e;cases hs;subst e;exact ⟨x',by simpa [mc] using hx',.inl rfl⟩
  ·split at hs
   ·rename_i e;cases hs;subst e;exact ⟨x',by simpa [mc] using hx',.inl rfl⟩
   ·cases hs
 have hmc:∀ q i x,mc q i=some x→∃ s,m s i=some x∧(s=16∨s=90)∧(s=16↔q=0)∧(s=90↔q=1):=fun q i x hx=>by
  simp only [mc] at hx;split at hx
  ·rename_i e;exact ⟨16,hx,.inl rfl,by simp [e],by simp [e]⟩
  ·split at hx
   ·rename_i e0 e;exact ⟨90,hx,.inr rfl,by simp [e],by simp [e]⟩
   ·cases hx
 have hO:∀ b,Own mc b→Own m b:=fun b ⟨q,i,x,hx,hn,hb⟩=>by
  obtain ⟨s,hs,_⟩:=hmc q i x hx;exact ⟨s,i,x,hs,hn,hb⟩
 have hd:∀ b,b<w.heap.size→¬ Forb Γ m b→w.heap[b]?=w.heap[b]?∧¬ FrO (NFr Γ w x5 x70) mc b:=fun b hb hn=>⟨rfl,fun h=>by
  rcases h with (h | h | h | h | h) | h
  ·exact hn (.inl h)
  ·omega
  ·omega
  ·exact hn (.inr ⟨5,0,x5,hL.m5,hL.n5,h.symm⟩)
  ·exact hn (.inr ⟨70,0,x70,hL.m70,hL.n70,h.symm⟩)
  ·exact hn (.inr (hO b h))⟩
 have hv:∀ {v c},VRel w (Forb Γ m) m v c→VRel w (FrO (NFr Γ w x5 x70) mc) mc (v.ren ρ) c:=fun hv=>hv.tr hd (Nat.le_refl _) (fun _ _ _ h=>h) hm;have hsz:∀ k,k<2→(w.shape? (w.heap.size+k))=none:=fun k _=>by
  simp [World.shape?]
 refine ⟨⟨mc,⟨fun k i=>?_,fun k i blk hb=>?_,fun k i x k' i' x' hx hx' hn hn' hb=>?_,fun k i x hx hn=>?_,fun p hp=>?_,hr.glob.tr hd (Nat.le_refl _)⟩,hL.m16,hL.m90⟩,rfl,rfl,rfl,Nat.le_refl _,fun _ _ _ _=>rfl,fun _ _ _ h=>h,hsz 0 (by omega),hsz 1 (by omega)⟩
 ·rw [nodH_look];have d16:(m 16 i).isSome=true↔i<1:=hr.dom 16 i;have d90:(m 90 i).isSome=true↔i<1:=hr.dom 90 i;simp only [mc];by_cases h0:k=0
  ·simp only [h0,if_true];exact d16
  ·by_cases h1:k=1
   ·simp only [h1,if_true];simpa using d90
   ·simp [h0,h1]
 ·rw [nodH_look] at hb;by_cases h0:k=0
  ·subst h0;simp only [if_true] at hb;cases i with
   | succ i=>simp at hb
   | zero =>
    simp at hb;subst hb;obtain ⟨x,hx,hB⟩:=hr.heap 16 0 (.rows 1 [[.osl 90 0 0 N N]] none) rfl;exact ⟨x,hx,BRel.ren (ρ:=ρ) hm hv hB⟩
  ·by_cases h1:k=1
   ·subst h1;simp at hb;cases i with
    | succ i=>simp at hb
    | zero =>
     simp at hb;subst hb;obtain ⟨x,hx,hB⟩:=hr.heap 90 0 (.rows 9 (nodRows R) (some [])) rfl;exact ⟨x,hx,BRel.ren (ρ:=ρ) hm hv hB⟩
   ·simp [h0,h1] at hb
 ·obtain ⟨s,hs,a1,a2,a3⟩:=hmc k i x hx;obtain ⟨s',hs',b1,b2,b3⟩:=hmc k' i' x' hx';obtain ⟨e1,e2⟩:=hr.inj s i x s' i' x' hs hs' hn hn' hb;subst e1;refine ⟨?_,e2⟩;rcases a1 with a1 | a1
  ·rw [←a2.1 a1] at *;exact (a2.1 a1).trans (b2.1 a1).symm
  ·exact (a3.1 a1).trans (b3.1 a1).symm
 ·obtain ⟨s,hs,a1,_⟩:=hmc k i x hx;have hf:=hr.fr s i x hs hn;refine ⟨fun h=>?_,hf.2.1⟩;rcases h with h | h | h | h | h
  ·exact hf.1 h
  ·have:=hf.2.1;omega
  ·have:=hf.2.1;omega
  ·obtain ⟨e,_⟩:=hr.inj s i x 5 0 x5 hs hL.m5 hn hL.n5 h;omega
  ·obtain ⟨e,_⟩:=hr.inj s i x 70 0 x70 hs hL.m70 hn hL.n70 h;omega
 ·simp only [nodH,List.mem_cons,List.not_mem_nil,or_false] at hp;rcases hp with rfl | rfl
  ·intro i r j v hi hj q hq;cases i with
   | succ i=>simp at hi
   | zero =>
    cases hi;cases j with
    | succ j=>simp at hj
    | zero=>cases hj;simp [V.sites] at hq;subst hq;rfl
  ·intro q hq;cases hq
theorem Cnt.turn {W W':World}(h:Cnt Γ w N x5 x16 x90 x70 R W) (hz:W.heap.size≤W'.heap.size) (hs:∀ c,c<W.heap.size→c≠w.heap.size→c≠w.heap.size+1→W'.heap[c]?=W.heap[c]?)
  (ho:W'.os=W.os) (ht:W'.tape=W.tape) (hp:W'.output=W.output) (hd:W'.shape? w.heap.size=none) (hl:W'.shape? (w.heap.size+1)=none):Cnt Γ w N x5 x16 x90 x70 R W':=by
 obtain ⟨⟨mc,h1,h2,h3⟩,h4,h5,h6,h7,h8,h9,h10,h11⟩:=h;have hsh:∀ b e n,W.shape? b=some (e,n)→W'.shape? b=some (e,n):=fun b e n hb=>by
  have hlt:=shape_lt hb;have n1:b≠w.heap.size:=fun e=>by subst e;rw [h10] at hb;cases hb
  have n2:b≠w.heap.size+1:=fun e=>by subst e;rw [h11] at hb;cases hb
  rw [shape?_of_heap (hs b hlt n1 n2)];exact hb
 refine ⟨⟨mc,HRel.turn h1 hz (fun c hc hn=>hs c hc (fun e=>hn (.inr (.inl e))) (fun e=>hn (.inr (.inr (.inl e))))) hsh,h2,h3⟩,ho.trans h4,ht.trans h5,hp.trans h6,Nat.le_trans h7 hz,fun b hb n1 n2=>?_,fun b e n hb=>hsh b e n (h9 b e n hb),hd,hl⟩;rw [hs b (by omega) (by omega) (by omega)];exact h8 b hb n1 n2
theorem Cnt.step {i:Nat}{W:World}(h:Cnt Γ w N x5 x16 x90 x70 R W) (hr:Rel Γ m (endSt N R0).den a w) (hL:Laid Γ m w a N x5 x16 x90 x70 cap) (hN:N=R.length) (hN0:N=R0.length) (hFr:∀ b,Γ.Fr b→b<w.heap.size) (hc:CntOK R i) (hz:w.heap.size+1<W.heap.size) :
  Calls Tryz.prog 139 #[ptr x16.b x16.base,.int .i64 i] W fun e W'=>(∃ v,e=.returned v)∧W'.heap[w.heap.size]?=W.heap[w.heap.size]?∧W'.heap[w.heap.size+1]?=W.heap[w.heap.size+1]?∧Cnt Γ w N x5 x16 x90 x70 (stepD R i) W':=by
 obtain ⟨⟨mc,h1,h2,h3⟩,h4,h5,h6,h7,h8,h9,h10,h11⟩:=h;have hx5:=(hr.fr 5 0 x5 hL.m5 hL.n5).2.1;have hx70:=(hr.fr 70 0 x70 hL.m70 hL.n70).2.1;have hx16:=(hr.fr 16 0 x16 hL.m16 hL.n16).2.1;have hx90:=(hr.fr 90 0 x90 hL.m90 hL.n90).2.1;have sp:=(count_spec2 R i N hc hN).calls (NFr Γ w x5 x70) mc W [ptr x16.b x16.base,.int .i64 i] rfl (fun b hb=>?_) h1 (fun j u c hj hcj=>?_) (fun u hu k hk=>?_)
 ·refine sp.mono fun e W' he=>?_;obtain ⟨cv,m',rfl,_,g1,g2,g3,g4⟩:=he;have hown:∀ b,Own mc b→b=x16.b∨b=x90.b:=fun b ⟨q,j,x,hx,hn,hb⟩=>by
   have hd:=(h1.dom q j).1 (by rw [hx];rfl);rw [nodH_look] at hd;by_cases e0:q=0
   ·subst e0;simp at hd;subst hd;rw [h2] at hx;cases hx;exact .inl hb.symm
   ·by_cases e1:q=1
    ·subst e1;simp at hd;subst hd;rw [h3] at hx;cases hx;exact .inr hb.symm
    ·simp [e0,e1] at hd
  have hnD:¬ Own mc w.heap.size:=fun ho=>by rcases hown _ ho with e | e<;>omega
  have hnL:¬ Own mc (w.heap.size+1):=fun ho=>by rcases hown _ ho with e | e<;>omega
  have eD:=g4.block w.heap.size (by omega) hnD;have eL:=g4.block (w.heap.size+1) (by omega) hnL;have hsame:∀ (q:Nat) (x0:MB) (n0:Nat),memB q (keys [(0,planB N),(1,Blk.rows 9 (nodRows R) (some []))])=true→mc q 0=some x0→(∀ x,m' q 0=some x→x.n=x0.n)→m' q 0=none∨m' q 0=some x0:=fun q x0 n0 hq hx0 hn=>by
   cases hx:m' q 0 with
   | none=>exact .inl rfl
   | some x =>
    obtain ⟨y,hy,ha⟩:=g3 q hq 0 x hx;rw [hx0] at hy;cases hy;rcases ha with rfl | ha
    ·exact .inr rfl
    ·have:=hn x hx;omega
  have hn0:x16.n=1:=by
   obtain ⟨x,hx,hB⟩:=hr.heap 16 0 (.rows 1 [[.osl 90 0 0 N N]] none) rfl;rw [hL.m16] at hx;cases hx;exact hB.hn
  have hn1:x90.n=N:=by
   obtain ⟨x,hx,hB⟩:=hr.heap 90 0 (.rows 9 (nodRows R0) (some [])) rfl;rw [hL.m90] at hx;cases hx;have:=hB.hn;rw [nodRows_len] at this;omega
  have key:∀ (q:Nat) (x0:MB) (b:Blk),memB q (keys [(0,planB N),(1,Blk.rows 9 (nodRows R) (some []))])=true→mc q 0=some x0→lookH (heapL (nodH N (stepD R i))) q=[b]→(∀ x,BRel W' (FrO (NFr Γ w x5 x70) m') m' x b→x.n=x0.n)→m' q 0=some x0:=fun q x0 b hq hx0 hl hb=>by
   obtain ⟨x,hx,hB⟩:=g1.blk q 0 b (by rw [show lookH (heapL [(0,planB N),(1,Blk.rows 9 (nodRows (stepD R i)) (some []))]) q=[b] from hl];rfl);rcases hsame q x0 0 hq hx0 (fun y hy=>by rw [hx] at hy;cases hy;exact hb _ hB) with h | h
   ·rw [h] at hx;cases hx
   ·exact h
  refine ⟨⟨cv,rfl⟩,eD,eL,⟨m',g1,key 0 x16 (planB N) rfl h2 (by rw [nodH_look];rfl) (fun x hB=>?_),key 1 x90 (.rows 9 (nodRows (stepD R i)) (some [])) rfl h3 (by rw [nodH_look];rfl) (fun x hB=>?_)⟩,g4.os.trans h4,g4.tape.1.trans h5,g4.output.trans h6,Nat.le_trans h7 g4.size,fun b hb n1 n2=>?_,fun b e n hb=>g4.shape b e n (h9 b e n hb),?_,?_⟩
  ·have:x.n=1:=RowsOK.hn hB;omega
  ·have:x.n=(nodRows (stepD R i)).length:=RowsOK.hn hB;rw [nodRows_len,stepD_len] at this;omega
  ·rw [g4.block b (by omega) (fun ho=>by rcases hown _ ho with e | e<;>omega)];exact h8 b hb n1 n2
  ·rw [shape?_of_heap eD];exact h10
  ·rw [shape?_of_heap eL];exact h11
 ·rcases hb with hb | hb | hb | hb | hb
  ·have:=hFr b hb;omega
  ·omega
  ·omega
  ·omega
  ·omega
 ·match j with
  | 0 =>
   cases hj;cases hcj;refine .bp 0 0 _ ⟨_,rfl⟩ fun x hx=>?_;rw [h2] at hx;cases hx;have hn0:x16.n=1:=by
    obtain ⟨y,hy,hB⟩:=hr.heap 16 0 (.rows 1 [[.osl 90 0 0 N N]] none) rfl;rw [hL.m16] at hy;cases hy;exact hB.hn
   exact ⟨by omega,fun _=>⟨hL.n16,rfl⟩⟩
  | 1=>cases hj;cases hcj;exact .int _ _
  | j+2=>simp at hj
 ·simp at hu;rcases hu with rfl | rfl
  ·simp [V.sites] at hk;subst hk;rfl
  ·simp [V.sites] at hk
end
end Go.Sx.Sp
namespace Go.Sx.Sp
open Go Go.Sx Go.Proofs
attribute [local irreducible] GoodW famL
theorem Cnt.box {Γ:Ctx}{m:MM}{w:World}{a:Act}{N:Nat}{R R0:List Nod}{x5 x16 x90 x70:MB}{cap:Nat}{W:World}(h:Cnt Γ w N x5 x16 x90 x70 R W) (hr:Rel Γ m (endSt N R0).den a w) (hL:Laid Γ m w a N x5 x16 x90 x70 cap) :
  W.cell? ⟨x70.b,x70.base,none⟩=some (.slice (some ⟨x90.b,x90.base,none⟩) N cap)∧W.cell? ⟨x5.b,x5.base,none⟩=some (ptr x16.b x16.base):=by
 have hx5:=(hr.fr 5 0 x5 hL.m5 hL.n5).2.1;have hx70:=(hr.fr 70 0 x70 hL.m70 hL.n70).2.1;have e1:x70.b≠x16.b:=fun e=>by have:=(hr.inj 70 0 x70 16 0 x16 hL.m70 hL.m16 hL.n70 hL.n16 e).1;omega
 have e2:x70.b≠x90.b:=fun e=>by have:=(hr.inj 70 0 x70 90 0 x90 hL.m70 hL.m90 hL.n70 hL.n90 e).1;omega
 have e3:x5.b≠x16.b:=fun e=>by have:=(hr.inj 5 0 x5 16 0 x16 hL.m5 hL.m16 hL.n5 hL.n16 e).1;omega
 have e4:x5.b≠x90.b:=fun e=>by have:=(hr.inj 5 0 x5 90 0 x90 hL.m5 hL.m90 hL.n5 hL.n90 e).1;omega
 exact ⟨by rw [cell?_of_heap (h.block _ hx70 e1 e2)];exact hL.c70,by rw [cell?_of_heap (h.block _ hx5 e3 e4)];exact hL.c5⟩
theorem Cnt.load {Γ:Ctx}{w:World}{N:Nat}{R:List Nod}{x5 x16 x90 x70:MB}{W:World}(h:Cnt Γ w N x5 x16 x90 x70 R W) {i j:Nat}(hi:i<R.length) (hj:j<9):∃ c,W.cell? ⟨x90.b,x90.base+i*9+j,none⟩=some c:=by
 obtain ⟨⟨mc,h1,h2,h3⟩,_⟩:=h;obtain ⟨x,hx,hB⟩:=h1.blk 1 0 (.rows 9 (nodRows R) (some [])) (by rw [nodH_look];rfl);rw [h3] at hx;cases hx;have hB:RowsOK _ _ _ _ 9 (nodRows R) (some []):=hB;have hg:=nodRows_get hi;have hl:R[i].row.length=9:=rfl;obtain ⟨_,_,c,h5,_⟩:=hB.cell i _ j _ hg (List.getElem?_eq_getElem (by rw [hl];exact hj));exact ⟨c,h5⟩
theorem list_value {n:Nat}{P:Program}{ops:Array Oper}{Q:Exit→Act→World→Prop}{o:Oper}{rest:List Oper}{a:Act}{w:World}{v:Value}{l:Nat}(hg:o.guard=none) (hop:∀ c,o.op≠.defer c)
  (hrun:(execOp a.eval o).run P w=.ok (.value v) w) (h:wpListIn (Fence.wide.inRound l) n P ops Q rest (a.put o.dst v) w):wpListIn (Fence.wide.inRound l) n P ops Q (o::rest) a w:=by
 unfold wpListIn;rw [if_pos (by unfold Region.wanted;rw [hg])];refine ⟨fun _ _=>trivial,?_⟩;rw [show (Fence.wide.inRound l).round=some l from rfl,Oper.semAt_some l a.eval o hop,hrun];exact h
theorem list_enter {n:Nat}{P:Program}{ops:Array Oper}{Q:Exit→Act→World→Prop}{o:Oper}{rest:List Oper}{a:Act}{w:World}{f:Nat}{args:Array Value}{l:Nat}{R:Ending→World→Prop}(hg:o.guard=none) (hop:∀ c,o.op≠.defer c)
  (hrun:(execOp a.eval o).run P w=.ok (.enter f args) w) (hc:Calls P f args w R) (hR:∀ e w',R e w'→∃ v,e=.returned v∧wpListIn (Fence.wide.inRound l) n P ops Q rest (a.put o.dst v) w'):wpListIn (Fence.wide.inRound l) n P ops Q (o::rest) a w:=by
 unfold wpListIn;rw [if_pos (by unfold Region.wanted;rw [hg])];refine ⟨fun _ _=>trivial,?_⟩;rw [show (Fence.wide.inRound l).round=some l from rfl,Oper.semAt_some l a.eval o hop,hrun];rw [Oper.uponIn_enter];refine ⟨fun h=>Bool.noConfusion h,CallsIn.inRound l ((callsIn_wide (n:=n-1)).2 (hc.mono fun e w' he=>?_))⟩;obtain ⟨v,rfl,h⟩:=hR e w' he;exact h
theorem list_value0 {n:Nat}{P:Program}{ops:Array Oper}{Q:Exit→Act→World→Prop}{o:Oper}{rest:List Oper}{a:Act}{w:World}{v:Value}(hg:o.guard=none)
  (hrun:(execOp a.eval o).run P w=.ok (.value v) w) (h:wpListIn Fence.wide n P ops Q rest (a.put o.dst v) w):wpListIn Fence.wide n P ops Q (o::rest) a w:=by
 unfold wpListIn;rw [if_pos (by unfold Region.wanted;rw [hg])];refine ⟨fun _ _=>trivial,?_⟩;rw [show Fence.wide.round=none from rfl,Oper.semAt_none,hrun];exact h
theorem Cnt.ends {Γ:Ctx}{m:MM}{w:World}{a:Act}{N:Nat}{R R0:List Nod}{x5 x16 x90 x70:MB}{cap:Nat}{W:World}(h:Cnt Γ w N x5 x16 x90 x70 R W) (hr:Rel Γ m (endSt N R0).den a w) (hL:Laid Γ m w a N x5 x16 x90 x70 cap) (hH0:∀ b,¬ Γ.H0 b) :
  EndR Γ (.bp 0 0) (nodH N R) (.returned (ptr x16.b x16.base)) W:=by
 obtain ⟨⟨mc,h1,h2,h3⟩,h4,h5,h6,h7,h8,h9,h10,h11⟩:=h;have f16:=(hr.fr 16 0 x16 hL.m16 hL.n16).2.2.resolve_left (hH0 _);have f90:=(hr.fr 90 0 x90 hL.m90 hL.n90).2.2.resolve_left (hH0 _);have hz:=hr.ext.size;refine ⟨_,mc,rfl,?_,HRel.less h1 (fun b hb=>.inl hb),fun q j x hx hn=>?_,hr.ext.os ▸ h4,⟨h5.trans hr.ext.tape.1,fun h=>h.elim⟩,hr.ext.output ▸ h6,Nat.le_trans hz h7,fun b hb _=>?_,fun b e n hb=>h9 b e n (hr.ext.shape b e n hb)⟩
 ·refine .bp 0 0 _ ⟨_,rfl⟩ fun x hx=>?_;rw [h2] at hx;cases hx;have hn0:x16.n=1:=by
   obtain ⟨y,hy,hB⟩:=hr.heap 16 0 (.rows 1 [[.osl 90 0 0 N N]] none) rfl;rw [hL.m16] at hy;cases hy;exact hB.hn
  exact ⟨by omega,fun _=>⟨hL.n16,rfl⟩⟩
 ·have hd:=(h1.dom q j).1 (by rw [hx];rfl);rw [nodH_look] at hd;by_cases e0:q=0
  ·subst e0;simp at hd;subst hd;rw [h2] at hx;cases hx;exact f16
  ·by_cases e1:q=1
   ·subst e1;simp at hd;subst hd;rw [h3] at hx;cases hx;exact f90
   ·simp [e0,e1] at hd
 ·rw [h8 b (by omega) (by omega) (by omega)];exact hr.ext.block b hb (hH0 b)
theorem eval_put {a:Act}{t u:Nat}{c:Value}(ht:t<a.tmps.size):(a.put (some t) c).eval (.tmp u)=if u=t then c else a.eval (.tmp u):=getD_put ht
set_option maxHeartbeats 4000000 in
theorem new_end (l:List Table) (p:Pth) {Γ:Ctx}(hN:Γ.N=(Tryz.f90).ntmps) (hK:Γ.K0=[]) (hH0:∀ b,¬ Γ.H0 b) (hFr:∀ b,Γ.Fr b→b<Γ.w0.heap.size) (hfew:p.steps.length≤4)
  (hcnt:∀ k,k<p.steps.length+1→CntOK (runD (nodesN l p p.steps.length) (p.steps.length+1) k) (p.steps.length+1-1-k)) :
  Wr Tryz.prog T Γ newRest (bodyPostM Fence.wide 5 Tryz.prog (Tryz.f90) (EndR Γ (.bp 0 0) (nodH (p.steps.length+1) (runD (nodesN l p p.steps.length) (p.steps.length+1) (p.steps.length+1))))) (newSt l p):=by
 have hNl:=nodesN_len l p p.steps.length (Nat.le_refl _);unfold newSt;generalize nodesN l p p.steps.length=R at *;have hN5:1≤p.steps.length+1∧p.steps.length+1≤5:=by omega
 generalize p.steps.length+1=N at *;have sp:=backward_spec N (nodRows R) (by rw [nodRows_len];omega);show Wr Tryz.prog T Γ (Code.seq (Code.seq _ _) _) _ _;refine Wr.assoc ?_;(refine gE env hN (by kernel_rfl) ?_;conv=>whnf);refine gGo ?_;(refine gCA [(0,90)] [(1,70)] [] (sp) ?_;conv=>whnf);refine gGo ?_;intro m a w hr;obtain ⟨m1,hr1⟩:=hr.leG (s':=endSt N R) (LeG.mk' (mp:=[(5,5),(16,16),(90,90),(70,70)]) (bo:=[]) rfl rfl rfl (by repeat' (first | exact trivial | exact ⟨_,.refl _,rfl⟩ | apply And.intro)) (.ci 5 (.ci 16 (.ci 90 (.ci 70 .nil)))) rfl rfl (by rw [hK];rfl));clear hr;obtain ⟨x5,x16,x90,x70,cap,hL⟩:=laid hr1 (by omega) (by omega);have hC:=cnt_init hr1 hL;have hsize:a.tmps.size=115:=by rw [hr1.size,hN];rfl
 have hFr2:∀ b,Γ.Fr b→b<w.heap.size:=fun b hb=>Nat.lt_of_lt_of_le (hFr b hb) hr1.ext.size;refine wp_block ((wpIn_wide (n:=5)).1 ?_);refine range_back (Bs:=x70.b) (Bo:=x70.base) (b:=x90.b) (off:=x90.base) (N:=N) (cap:=cap) (by omega) hL.v108 (fun k W=>Cnt Γ w N x5 x16 x90 x70 (runD R N k) W) (fun k W W' h hz hs ho ht hp hd hl=>h.turn hz hs ho ht hp hd hl)
  (fun k W h=>(h.box hr1 hL).1) (fun k W i h hi j hj=>h.load (by rw [runD_len];omega) hj) hC
  (fun k v=>{ tmps:=((a.tmps.setIfInBounds 109 (.int .i64 ((N:Int)-1-k))).setIfInBounds 110 v).setIfInBounds 14 (.int .i64 ((N:Int)-1-k)),defers:=[] }) ?_ ?_ ?_
 ·intro l k v W K hk;refine wpIn_region_list ?_;have hA:Array.foldl (fun (t:Array Value) (x:Nat×Value)=>match x with | (p,v)=>t.setIfInBounds p v) a.tmps ((#[109,110]:Array Nat).zip #[Value.int IntKind.i64 ((N:Int)-1-k),v])=(a.tmps.setIfInBounds 109 (.int .i64 ((N:Int)-1-k))).setIfInBounds 110 v:=by simp
  rw [hA];refine list_value (v:=.int .i64 ((N:Int)-1-k)) rfl (fun _ h=>by cases h) ?_ ?_
  ·have:({ tmps:=(a.tmps.setIfInBounds 109 (.int .i64 ((N:Int)-1-k))).setIfInBounds 110 v,defers:=[] }:Act).eval (.tmp 109)=.int .i64 ((N:Int)-1-k):=by
    show Array.getD _ 109 undef=_;have hsz:a.tmps.size=115:=hsize;simp [Array.getD_eq_getD_getElem?,hsz]
   simp [execOp,this]
  ·exact hk
 ·intro l k v W hk hi hz;have hsz:a.tmps.size=115:=hsize;refine wpIn_block (wpIn_region_list ?_);obtain ⟨A,hA⟩:∃ A:Array Value,A=((a.tmps.setIfInBounds 109 (.int .i64 ((N:Int)-1-k))).setIfInBounds 110 v).setIfInBounds 14 (.int .i64 ((N:Int)-1-k)):=⟨_,rfl⟩
  have hAs:A.size=115:=by rw [hA];simp [hsz]
  have hA5:A.getD 5 undef=ptr x5.b x5.base:=by
   rw [←hL.v5,hA];simp [Array.getD_eq_getD_getElem?]
  have hA14:A.getD 14 undef=.int .i64 ((N:Int)-1-k):=by
   rw [hA];simp [Array.getD_eq_getD_getElem?,hsz]
  rw [←hA];clear hA;have hbox:=(hi.box hr1 hL).2;refine list_value (v:=ptr x16.b x16.base) rfl (fun _ h=>by cases h) ?_ ?_
  ·have e5:({ tmps:=A,defers:=[] }:Act).eval (.tmp 5)=ptr x5.b x5.base:=hA5;have hT:=(env).table 154 _ (show look T 154=some _ from rfl);have hl:(loadVar 154 ⟨x5.b,x5.base,none⟩).run Tryz.prog W=.ok (ptr x16.b x16.base) W:=by
    simp [loadVar,run_isAgg hT,hbox,TK.agg]
   have hl2:(Instr.loadAt 154 (ptr x5.b x5.base)).run Tryz.prog W=.ok (ptr x16.b x16.base) W:=by
    simp [Instr.loadAt,ptr,Instr.sureAddr];exact hl
   simp [execOp,e5,hl2]
  ·refine list_value (v:=.int .i64 ((N:Int)-1-k)) rfl (fun _ h=>by cases h) ?_ ?_
   ·have e14:(({ tmps:=A,defers:=[] }:Act).put (some 111) (ptr x16.b x16.base)).eval (.tmp 14)=.int .i64 ((N:Int)-1-k):=by
     rw [eval_put (by rw [hAs];omega),if_neg (by omega)];exact hA14
    simp [execOp,e14]
   ·have e111:((({ tmps:=A,defers:=[] }:Act).put (some 111) (ptr x16.b x16.base)).put (some 112) (.int .i64 ((N:Int)-1-k))).eval (.tmp 111)=ptr x16.b x16.base:=by
     rw [eval_put (by simp [Act.put,hAs]),if_neg (by omega),eval_put (by rw [hAs];omega),if_pos rfl]
    have e112:((({ tmps:=A,defers:=[] }:Act).put (some 111) (ptr x16.b x16.base)).put (some 112) (.int .i64 ((N:Int)-1-k))).eval (.tmp 112)=.int .i64 ((N:Int)-1-k):=by
     rw [eval_put (by simp [Act.put,hAs]),if_pos rfl]
    obtain ⟨i,hi2⟩:∃ i:Nat,(N:Int)-1-k=i:=⟨N-1-k,by omega⟩
    have hi3:i=N-1-k:=by omega
    rw [hi2] at e111 e112 ⊢;have hco:=hcnt k hk;rw [←hi3] at hco;have hcall:=hi.step hr1 hL (by rw [runD_len];omega) (by omega) hFr2 hco hz;refine list_enter rfl (fun _ h=>by cases h) (f:=139) (args:=#[ptr x16.b x16.base,.int .i64 i]) ?_ hcall ?_
    ·have hent:=(count_spec2 _ _ N hco (by rw [runD_len];omega)).enter #[ptr x16.b x16.base,.int .i64 i] W;have ef:((({ tmps:=A,defers:=[] }:Act).put (some 111) (ptr x16.b x16.base)).put (some 112) (.int .i64 i)).eval (.func 139)=.func (.func 139) #[] #[]:=rfl;simp [execOp,resolve,e111,e112,ef,Deferred.ofValue,invoke,hent]
    ·rintro e w' ⟨⟨v,rfl⟩,d1,d2,d3⟩;refine ⟨v,rfl,?_⟩;refine ⟨rfl,d1,d2,?_⟩;rw [hi3] at d3;exact d3
 ·intro W hi hD;show (Code.seq _ _).wp Tryz.prog _ _ W;refine (wpIn_wide (n:=5)).1 (wpIn_seq (wpIn_region_list ?_));have hbox:=(hi.box hr1 hL).2;have e5:({ tmps:=a.tmps,defers:={ target:=Target.collected w.heap.size,args:=#[] }::a.defers }:Act).eval (.tmp 5)=ptr x5.b x5.base:=hL.v5;have hT:=(env).table 154 _ (show look T 154=some _ from rfl);have hl:(loadVar 154 ⟨x5.b,x5.base,none⟩).run Tryz.prog W=.ok (ptr x16.b x16.base) W:=by
   simp [loadVar,run_isAgg hT,hbox,TK.agg]
  have hl2:(Instr.loadAt 154 (ptr x5.b x5.base)).run Tryz.prog W=.ok (ptr x16.b x16.base) W:=by
   simp [Instr.loadAt,ptr,Instr.sureAddr];exact hl
  refine list_value0 (v:=ptr x16.b x16.base) rfl (by simp [execOp,e5,hl2]) ?_;refine list_value0 (v:=ptr x16.b x16.base) rfl ?_ ?_
  ·have e114:(({ tmps:=a.tmps,defers:={ target:=Target.collected w.heap.size,args:=#[] }::a.defers }:Act).put (some 114) (ptr x16.b x16.base)).eval (.tmp 114)=ptr x16.b x16.base:=by
    rw [eval_put (by show 114<a.tmps.size;omega),if_pos rfl]
   simp [execOp,e114]
  ·refine wpIn_ret ?_;have hlt:w.heap.size<W.heap.size:=(Array.getElem?_eq_some_iff.1 hD).1;have hT2:Cnt Γ w N x5 x16 x90 x70 (runD R N N) (W.putObj w.heap.size (.deferred none)):=by
    refine hi.turn (by simp [World.putObj]) (fun c hc n1 n2=>World.putObj_heap_other n1) rfl rfl rfl ?_ ?_
    ·have:(W.putObj w.heap.size (.deferred none)).heap[w.heap.size]?=some (.deferred none):=World.putObj_heap_same hlt;simp [World.shape?,this]
    ·rw [shape?_of_heap (World.putObj_heap_other (by omega))];exact hi.l
   refine ⟨by simp,.inl ⟨_,_,rfl,run_takeDeferred hD,?_⟩⟩;have hd0:a.defers=[]:=hr1.defers;show LeavesInM _ _ _ _ _ _ a.defers _ _;rw [hd0];refine ⟨ptr x16.b x16.base,?_,hT2.ends hr1 hL hH0⟩;have h4:((a.tmps.setIfInBounds 114 (ptr x16.b x16.base)).setIfInBounds 4 (ptr x16.b x16.base)).getD 4 undef=ptr x16.b x16.base:=by
    simp [Array.getD_eq_getD_getElem?,hsize]
   show (results _ ((a.tmps.setIfInBounds 114 (ptr x16.b x16.base)).setIfInBounds 4 (ptr x16.b x16.base))).run Tryz.prog _=_;generalize ((a.tmps.setIfInBounds 114 (ptr x16.b x16.base)).setIfInBounds 4 (ptr x16.b x16.base))=B at *;have hres:(Tryz.f90).results=#[ResultVar.tmp 4]:=rfl;unfold results;rw [hres];simp;rw [←Array.getD_eq_getD_getElem?];exact h4
def planN (l:List Table) (p:Pth):List Nod:=runD (nodesN l p p.steps.length) (p.steps.length+1) (p.steps.length+1)
theorem new_spec (l:List Table) (p:Pth) (ok:PathOK l p) (hcnt:∀ k,k<p.steps.length+1→CntOK (runD (nodesN l p p.steps.length) (p.steps.length+1) k) (p.steps.length+1-1-k)) :
  Spec Tryz.prog 90 [.sl (tblRows l) false,.agg p.row] [] (.bp 0 0) (nodH (p.steps.length+1) (planN l p)):=by
 refine Spec.bodyM (T:=T) Tryz.func90 rfl (by kernel_rfl) (Nat.le_of_ble_eq_true (by kernel_rfl)) fun Γ hN hK hH0 hFr=>?_;exact new_pre l p ok hN hK (new_end l p hN hK hH0 hFr ok.few hcnt) rfl
theorem every_tab (l:List Table):Spec Tryz.prog 119 [.sl (tblRows l) false,.fn 39 []] [] (.bool (l.all validB)) []:=by
 have hl:=tblRows_len l;refine gEn env Tryz.func119 fun Γ hN hK hML=>?_;refine gGo ?_;intros;refine W.loopG (fun n st=>∃ k:Nat,k≤l.length∧l.all validB=(l.drop k).all validB∧n=l.length-k∧st=⟨[(1,.fn 39 []),(7,.sl (tblRows l) false),(8,.int .i64 (tblRows l).length),(9,.int .i64 k)],[],[]⟩)
  l.length _ ⟨0,Nat.zero_le _,by simp,by omega,rfl⟩ gX ?_
 rintro n st ⟨k,hk,hall,rfl,rfl⟩;refine gT (fun hb=>?_) fun hb=>?_
 ·have hlt:k<l.length:=by omega
  have hget:=tblRows_get hlt;have sp:=valid_spec l[k];rw [List.drop_eq_getElem_cons hlt,List.all_cons] at hall;generalize l[k]=c at *;refine g ?_;cases h1:validB c with
  | false =>
   rw [h1] at sp hall;refine g ?_;refine gGr ?_;exact ret0 rfl (congrArg V.bool (by rw [hall];rfl)) rfl
  | true =>
   rw [h1] at sp hall;refine g ?_;exact gZ ⟨k+1,by omega,by rw [hall];rfl,rfl,rfl⟩
 ·have hke:k=l.length:=by omega
  rw [hke,List.drop_length] at hall;refine gGr ?_;exact ret0 rfl (congrArg V.bool (by rw [hall];rfl)) rfl
def ascB:List Table→Bool
 | a::b::r=>decide (a.id<b.id)&&ascB (b::r)
 | _=>true
def listB (l:List Table):Bool:=ascB l&&(decide (l.length≤1024)&&l.all validB)
set_option maxHeartbeats 2000000 in
theorem validList_spec (l:List Table):Spec Tryz.prog 70 [.sl (tblRows l) false] [] (.bool (listB l)) []:=by
 have hl:=tblRows_len l;have spE:=every_tab l;refine gEn env Tryz.func70 fun Γ hN hK hML=>?_;refine gGo ?_;refine W.loopG (fun m st=>∃ k:Nat,k≤l.length∧ascB l=ascB (l.drop k)∧m=l.length-k∧st=⟨[(0,.sl (tblRows l) false),(3,.int .i64 (k+1:Nat))],[],[]⟩)
  l.length _ ⟨0,by omega,by simp,by omega,rfl⟩ gX ?_
 rintro m st ⟨k,hk,hasc,rfl,rfl⟩;refine gT (fun hb=>?_) fun hb=>?_
 ·have h1:k+1<l.length:=by omega
  have hg1:=tblRows_get (show k<l.length by omega);have hg2:=tblRows_get h1;rw [List.drop_eq_getElem_cons (show k<l.length by omega),List.drop_eq_getElem_cons h1] at hasc;simp only [ascB] at hasc;rw [←List.drop_eq_getElem_cons h1] at hasc;generalize l[k]=a at *;generalize l[k+1]=b at *;refine gGo ?_;intros;refine rowAt_of (by simpa using hg1) ?_;(conv=>whnf);refine gGo ?_;refine rowAt_of (by simpa using hg2) ?_;(conv=>whnf);refine gGo ?_;refine boolRes_split (fun hb=>?_) (fun hb=>?_)<;>conv=>whnf
  ·have hT:listB l=false:=by unfold listB;rw [hasc,decide_eq_false (by omega)];rfl
   refine gGr ?_;exact ret0 rfl (congrArg V.bool hT.symm) rfl
  ·rw [decide_eq_true (by omega),Bool.true_and] at hasc;refine gGo ?_;exact gZ ⟨k+1,by omega,hasc,rfl,rfl⟩
 ·have hT:listB l=(decide (l.length≤1024)&&l.all validB):=by
   unfold listB;have:(l.drop k).length≤1:=by simp;omega
   rw [hasc]
   match hq:l.drop k,this with
   | [],_=>rfl
   | [x],_=>rfl
  refine gT (fun hb=>?_) fun hb=>?_
  ·rw [decide_eq_true (by omega),Bool.true_and] at hT;refine g ?_;refine gGr ?_;intros;exact ret0 rfl (congrArg V.bool hT.symm) rfl
  ·rw [decide_eq_false (by omega),Bool.false_and] at hT;refine gGr ?_;intros;exact ret0 rfl (congrArg V.bool hT.symm) rfl
theorem permitted_spec (l:List Table):Spec Tryz.prog 31 [.sl (tblRows l) false] [] (.bool (listB l)) []:=by
 have sp:=validList_spec l;refine gEn env Tryz.func31 fun Γ hN hK hML=>?_;exact gR
def getC (l:List Table) (t c:Int):Option Column:=match findT l t with
 | some tb=>if 0≤c∧c<tb.cols.length then tb.cols[c.toNat]? else none
 | none=>none
def Column.zero:Column:=⟨[],[]⟩
set_option maxHeartbeats 4000000 in
theorem getC_spec (l:List Table) (t c:Int) (hs:∀ t∈l,SmallT t):Spec Tryz.prog 71 [.sl (tblRows l) false,.agg [.int .i64 t,.int .i64 c]] [] (.tup [.agg ((getC l t c).getD Column.zero).row,.bool (getC l t c).isSome]) []:=by
 have sp:=find_spec l t;have hl:=tblRows_len l;refine gEn env Tryz.func71 fun Γ hN hK hML=>?_;refine g ?_;rcases find_ix l t with ⟨i,hi,h1,h2⟩ | ⟨h1,h2⟩
 ·have hx:=tblRows_get hi;have hst:=hs _ (List.getElem_mem hi);have hgc:getC l t c=if 0≤c∧c<(l[i]).cols.length then (l[i]).cols[c.toNat]? else none:=by unfold getC;rw [h2]
  rw [h1];generalize l[i]=tb at *;have hcl:=colRows_len tb.cols;by_cases hc:0≤c∧c<tb.cols.length
  ·rw [if_pos hc] at hgc;obtain ⟨k,rfl⟩:∃ k:Nat,c=k:=⟨c.toNat,by omega⟩
   have hk:k<tb.cols.length:=by omega
   have hg:getC l t k=some tb.cols[k]:=by rw [hgc];simp [hk]
   rw [hg];have hcx:=colRows_get hk;have sp2:=column_copy tb.cols[k] (hst.2 _ (List.getElem_mem hk));generalize tb.cols[k]=col at *;exact gR
  ·rw [if_neg hc] at hgc;rw [hgc];by_cases h0:c<0
   ·exact gR
   ·exact gR
 ·have hgc:getC l t c=none:=by unfold getC;rw [h2]
  rw [h1,hgc];exact gR
def stepOK (l:List Table) (p:Pth) (j:Nat):Bool:=match p.steps[j]? with
 | some s=>(getC l s.ft s.fc).isSome&&((getC l s.tt s.tc).isSome&&(decide (s.ft∈befT p j)&&!decide (s.tt∈befT p j)))
 | none=>true
def pathB (l:List Table) (p:Pth):Bool:=(findT l p.start).isSome&&(List.range p.steps.length).all (stepOK l p)
theorem pathB_true {l:List Table}{p:Pth}(h0:(findT l p.start).isSome=true) (h:∀ j,j<p.steps.length→stepOK l p j=true):pathB l p=true:=by
 unfold pathB;rw [h0,Bool.true_and,List.all_eq_true];exact fun j hj=>h j (List.mem_range.1 hj)
def validE (l:List Table) (p:Pth):Int:=if listB l=true then (if p.steps.length≤4 then (if pathB l p=true then 0 else 21) else 3) else 1
theorem listB_small {l:List Table}(h:listB l=true):∀ t∈l,SmallT t:=by
 intro t ht;unfold listB at h;simp only [Bool.and_eq_true] at h;have hv:=List.all_eq_true.1 h.2.2 t ht;unfold validB at hv;rw [Bool.and_eq_true] at hv;have h1:=hv.1;unfold headB at h1;simp only [Bool.and_eq_true,decide_eq_true_eq] at h1;refine ⟨by omega,fun c hc=>?_⟩;have h2:=hv.2;rw [Bool.not_eq_true',List.any_eq_false] at h2;have h3:=h2 c hc;unfold badCol at h3;simp only [Bool.not_eq_true,Bool.or_eq_false_iff,Bool.not_eq_false',Bool.not_eq_eq_eq_not,Bool.not_true,Bool.not_false,decide_eq_true_eq] at h3;have h4:c.cells.length=rowsN t:=by
  rcases Nat.lt_trichotomy c.cells.length (rowsN t) with h | h | h
  ·simp_all
  ·exact h
  ·simp_all
 omega
def stpAt (p:Pth) (i:Nat):Stp:=p.steps.getD i ⟨0,0,0,0⟩
def parI (p:Pth) (i:Nat):Nat:=placeI (befT p i) (stpAt p i).ft
def kidsL (p:Pth) (j k:Nat):List Nat:=((List.range j).filter fun i=>decide (parI p i=k)).map (· + 1)
def nodeAt (l:List Table) (p:Pth) (j k:Nat):Nod:=match k with
 | 0=>⟨tabOf l p.start,0,0,0,kidsL p j 0,none⟩
 | i+1=>⟨tabOf l (stpAt p i).tt,(parI p i:Nat),(stpAt p i).fc.toNat,(stpAt p i).tc.toNat,kidsL p j (i+1),none⟩
theorem parI_le (p:Pth) {i:Nat}(h:i≤p.steps.length):parI p i≤i:=by
 have:=placeI_lt (T:=befT p i) (by simp [befT]) (stpAt p i).ft;rw [befT_len p h] at this;unfold parI;omega
theorem kidsL_snoc (p:Pth) (j k:Nat):kidsL p (j+1) k=if parI p j=k then kidsL p j k++[j+1] else kidsL p j k:=by
 unfold kidsL;rw [List.range_succ,List.filter_append];by_cases h:parI p j=k<;>simp [h]
theorem kidsL_new (p:Pth) {j k:Nat}(hj:j≤p.steps.length) (h:j<k):kidsL p j k=[]:=by
 unfold kidsL;rw [List.filter_eq_nil_iff.2]
 ·rfl
 ·intro i hi;have:=List.mem_range.1 hi;have:=parI_le p (i:=i) (by omega);simp;omega
theorem nodeAt_snoc (l:List Table) (p:Pth) (j k:Nat):nodeAt l p (j+1) k=if parI p j=k then { nodeAt l p j k with kids:=(nodeAt l p j k).kids++[j+1] } else nodeAt l p j k:=by
 cases k with
 | zero=>simp only [nodeAt,kidsL_snoc];split<;>rfl
 | succ i=>simp only [nodeAt,kidsL_snoc];split<;>rfl
theorem nodesN_eq (l:List Table) (p:Pth):∀ j,j≤p.steps.length→nodesN l p j=(List.range (j+1)).map (nodeAt l p j)
 | 0,_=>rfl
 | j+1,h=>by
  have ih:=nodesN_eq l p j (by omega);have hg:p.steps[j]?=some p.steps[j]:=List.getElem?_eq_getElem (by omega);have hs:stpAt p j=p.steps[j]:=by simp [stpAt,hg]
  have hp:=parI_le p (i:=j) (by omega);simp only [nodesN,hg,ih];have hpe:placeI (befT p j) p.steps[j].ft=parI p j:=by unfold parI;rw [hs]
  rw [hpe];refine List.ext_getElem? fun k=>?_;unfold addKid;rw [List.getElem?_modify,List.getElem?_map];rcases Nat.lt_trichotomy k (j+1) with hk | hk | hk
  ·rw [List.getElem?_append_left (by simpa using hk),List.getElem?_map,List.getElem?_range hk,List.getElem?_range (by omega)];simp only [Option.map_some,nodeAt_snoc];by_cases e:parI p j=k
   ·simp [e]
   ·simp [e]
  ·subst hk;rw [List.getElem?_append_right (by simp),List.getElem?_range (by omega)];simp only [List.length_map,List.length_range,Nat.sub_self,List.getElem?_cons_zero,Option.map_some,nodeAt_snoc];have hne:¬ parI p j=j+1:=by omega
   rw [if_neg hne];simp only [nodeAt,kidsL_new p (show j≤p.steps.length by omega) (Nat.lt_succ_self j),hs];simp [hne]
  ·rw [List.getElem?_eq_none (by simp;omega),List.getElem?_eq_none (by simp;omega)];simp
theorem nodesN_get (l:List Table) (p:Pth) {j k:Nat}(hj:j≤p.steps.length) (hk:k≤j):(nodesN l p j)[k]?=some (nodeAt l p j k):=by
 rw [nodesN_eq l p j hj,List.getElem?_map,List.getElem?_range (by omega)];rfl
theorem kidsL_mem {p:Pth}{j k i:Nat}:i∈kidsL p j k↔∃ q,q<j∧parI p q=k∧i=q+1:=by
 unfold kidsL;simp only [List.mem_map,List.mem_filter,List.mem_range,decide_eq_true_eq];constructor
 ·rintro ⟨q,⟨h1,h2⟩,h3⟩;exact ⟨q,h1,h2,h3.symm⟩
 ·rintro ⟨q,h1,h2,h3⟩;exact ⟨q,⟨h1,h2⟩,h3.symm⟩
theorem runD_shape {R:List Nod}{N:Nat}(hN:R.length=N):∀ k,k≤N→∀ i n,R[i]?=some n→∃ d,(runD R N k)[i]?=some { n with done:=d }∧(N-k≤i→d.isSome=true)∧(i<N-k→d=n.done)
 | 0,_,i,n,h=>⟨n.done,h,fun hi=>by have:=(List.getElem?_eq_some_iff.1 h).1;omega,fun _=>rfl⟩
 | k+1,hk,i,n,h=>by
  obtain ⟨d,h1,h2,h3⟩:=runD_shape hN k (by omega) i n h;have hlt:=(List.getElem?_eq_some_iff.1 h).1;have hl:=runD_len R N k;simp only [runD];unfold stepD;have hj:N-1-k<(runD R N k).length:=by omega
  rw [List.getElem?_eq_getElem hj];simp only;by_cases e:N-1-k=i
  ·subst e;rw [List.getElem?_eq_getElem hj] at h1;have h1:=Option.some.inj h1;rw [List.getElem?_set_self hj,h1];exact ⟨_,rfl,fun _=>rfl,fun h=>by omega⟩
  ·rw [List.getElem?_set_ne e];exact ⟨d,h1,fun hi=>h2 (by omega),fun hi=>h3 (by omega)⟩
def sumN (N:Nat) (f:Nat→Nat):Nat:=((List.range N).map f).sum
theorem sumN_succ (N:Nat) (f:Nat→Nat):sumN (N+1) f=sumN N f+f N:=by simp [sumN,List.range_succ]
theorem sumN_add (N:Nat) (f g h:Nat→Nat) (e:∀ j,j<N→f j=g j+h j):sumN N f=sumN N g+sumN N h:=by
 induction N with
 | zero=>rfl
 | succ N ih =>
  have:=ih fun j hj=>e j (by omega);have:=e N (by omega);simp only [sumN_succ];omega
theorem sumN_congr (N:Nat) (f g:Nat→Nat) (e:∀ j,j<N→f j=g j):sumN N f=sumN N g:=by
 induction N with
 | zero=>rfl
 | succ N ih =>
  have:=ih fun j hj=>e j (by omega);have:=e N (by omega);simp only [sumN_succ];omega
theorem sumN_one (N i c:Nat) (h:i<N):sumN N (fun j=>if j=i then c else 0)=c:=by
 induction N with
 | zero=>omega
 | succ N ih =>
  simp only [sumN_succ];by_cases e:N=i
  ·subst e;have h0:∀ M,M≤N→sumN M (fun j=>if j=N then c else 0)=0:=by
    intro M hM;clear ih h
    induction M with
    | zero=>rfl
    | succ M im=>rw [sumN_succ,im (by omega),if_neg (by omega)]
   have:sumN N (fun j=>if j=N then c else 0)=0:=h0 N (Nat.le_refl _);simp [this]
  ·rw [ih (by omega)];simp [e]
def rootS (e par:Nat→Nat) (a N:Nat):Nat:=sumN N fun j=>if a≤j∧par j<a then e j+1 else 0
def kidS (e par:Nat→Nat) (i N:Nat):Nat:=sumN N fun j=>if par j=i∧i<j then e j+1 else 0
theorem rootS_step {e par:Nat→Nat}{i N:Nat}(hi:i<N) (hp:par i<i∨i=0):rootS (fun j=>if j=i then kidS e par i N else e j) par i N≤rootS e par (i+1) N+1∧kidS e par i N≤rootS e par (i+1) N:=by
 have h1:rootS e par (i+1) N=sumN N (fun j=>if i+1≤j∧par j<i then e j+1 else 0)+kidS e par i N:=by
  unfold rootS kidS;refine sumN_add N _ _ _ fun j hj=>?_;by_cases a:i+1≤j
  ·rcases Nat.lt_trichotomy (par j) i with h | h | h
   ·rw [if_pos ⟨a,by omega⟩,if_pos ⟨a,h⟩,if_neg (by omega)]
   ·rw [if_pos ⟨a,by omega⟩,if_neg (by omega),if_pos ⟨h,by omega⟩];omega
   ·rw [if_neg (by omega),if_neg (by omega),if_neg (by omega)]
  ·rw [if_neg (by omega),if_neg (by omega),if_neg (by omega)]
 have h2:rootS (fun j=>if j=i then kidS e par i N else e j) par i N≤sumN N (fun j=>if i+1≤j∧par j<i then e j+1 else 0)+(kidS e par i N+1):=by
  have h3:sumN N (fun j=>if j=i then (if par i<i then kidS e par i N+1 else 0) else 0)=(if par i<i then kidS e par i N+1 else 0):=sumN_one N i _ hi;have h4:rootS (fun j=>if j=i then kidS e par i N else e j) par i N=sumN N (fun j=>if i+1≤j∧par j<i then e j+1 else 0)+sumN N (fun j=>if j=i then (if par i<i then kidS e par i N+1 else 0) else 0):=by
   unfold rootS;refine sumN_add N _ _ _ fun j hj=>?_;by_cases a:j=i
   ·subst a;simp only [if_true];by_cases b:par j<j
    ·rw [if_pos ⟨Nat.le_refl _,b⟩,if_neg (by omega),if_pos b];omega
    ·rw [if_neg (by omega),if_neg (by omega),if_neg b]
   ·simp only [if_neg a];by_cases b:i+1≤j∧par j<i
    ·rw [if_pos ⟨by omega,b.2⟩,if_pos b]
    ·rw [if_neg (by omega),if_neg b]
  rw [h4,h3];split<;>omega
 omega
theorem validB_rows {t:Table}(h:validB t=true):rowsN t≤4096∧(∀ c∈t.cols,c.cells.length=rowsN t):=by
 unfold validB at h;rw [Bool.and_eq_true] at h;have h1:=h.1;unfold headB at h1;simp only [Bool.and_eq_true,decide_eq_true_eq] at h1;refine ⟨by omega,fun c hc=>?_⟩;have h2:=h.2;rw [Bool.not_eq_true',List.any_eq_false] at h2;have h3:=h2 c hc;unfold badCol at h3;rcases Nat.lt_trichotomy c.cells.length (rowsN t) with h | h | h
 ·simp_all
 ·exact h
 ·simp_all
theorem listB_valid {l:List Table}(h:listB l=true):∀ t∈l,validB t=true:=by
 intro t ht;unfold listB at h;simp only [Bool.and_eq_true] at h;exact List.all_eq_true.1 h.2.2 t ht
theorem findT_mem {l:List Table}{n:Int}{t:Table}(h:findT l n=some t):t∈l∧t.id=n:=by
 unfold findT at h;exact ⟨List.mem_of_find?_eq_some h,by have:=List.find?_some h;simpa using this⟩
theorem tabOf_rows {l:List Table}(h:listB l=true) (n:Int):rowsN (tabOf l n)≤4096∧∀ c∈(tabOf l n).cols,c.cells.length=rowsN (tabOf l n):=by
 unfold tabOf;cases hf:findT l n with
 | none=>exact ⟨by simp [Table.zero,rowsN],fun c hc=>by simp [Table.zero] at hc⟩
 | some t=>exact validB_rows (listB_valid h t (findT_mem hf).1)
structure StepF (l:List Table) (p:Pth) (i:Nat):Prop where
 fc:0≤(stpAt p i).fc∧(stpAt p i).fc<(tabOf l (stpAt p i).ft).cols.length
 tc:0≤(stpAt p i).tc∧(stpAt p i).tc<(tabOf l (stpAt p i).tt).cols.length
 old:(stpAt p i).ft∈befT p i
 new:(stpAt p i).tt∉befT p i
theorem getC_some {l:List Table}{t c:Int}(h:(getC l t c).isSome=true):0≤c∧c<(tabOf l t).cols.length:=by
 unfold getC at h;unfold tabOf;cases hf:findT l t with
 | none=>rw [hf] at h;simp at h
 | some tb =>
  rw [hf] at h;simp only at h;split at h
  ·rename_i h1;exact h1
  ·simp at h
theorem pathB_step {l:List Table}{p:Pth}(h:pathB l p=true) {i:Nat}(hi:i<p.steps.length):StepF l p i:=by
 unfold pathB at h;rw [Bool.and_eq_true,List.all_eq_true] at h;have h1:=h.2 i (List.mem_range.2 hi);have hg:p.steps[i]?=some p.steps[i]:=List.getElem?_eq_getElem hi;have hs:stpAt p i=p.steps[i]:=by simp [stpAt,hg]
 unfold stepOK at h1;rw [hg] at h1;simp only [Bool.and_eq_true,Bool.not_eq_true',decide_eq_true_eq,decide_eq_false_iff_not] at h1;rw [←hs] at h1;exact ⟨getC_some h1.1,getC_some h1.2.1,h1.2.2.1,h1.2.2.2⟩
theorem valid_path {l:List Table}{p:Pth}(h:validE l p=0):listB l=true∧p.steps.length≤4∧pathB l p=true:=by
 unfold validE at h;split at h
 ·rename_i h1;split at h
  ·rename_i h2;split at h
   ·rename_i h3;exact ⟨h1,h2,h3⟩
   ·cases h
  ·cases h
 ·cases h
theorem pathOK_of {l:List Table}{p:Pth}(h:validE l p=0):PathOK l p:=by
 obtain ⟨h1,h2,h3⟩:=valid_path h;refine ⟨listB_small h1,h2,fun j hj=>?_,fun s hs=>?_⟩
 ·have:=(pathB_step h3 hj).new;have hs:stpAt p j=p.steps[j]:=by simp [stpAt,hj]
  rwa [hs] at this
 ·obtain ⟨j,hj,rfl⟩:=List.getElem_of_mem hs;have:=pathB_step h3 hj;have hs:stpAt p j=p.steps[j]:=by simp [stpAt,hj]
  exact ⟨by rw [←hs];exact this.fc.1,by rw [←hs];exact this.tc.1⟩
theorem ixI_at {t:Int}:∀ {l:List Int}{i:Nat},ixI t l=some i→l[i]?=some t
 | [],i,h=>by cases h
 | s::l,i,h=>by
  by_cases e:t=s
  ·simp only [ixI,e,if_true,Option.some.injEq] at h;subst h;simp [e]
  ·simp only [ixI,e,if_false,Option.map_eq_some_iff] at h;obtain ⟨j,hj,rfl⟩:=h;simpa using ixI_at hj
theorem nodeAt_tab (l:List Table) (p:Pth) (j k:Nat) {i:Nat}(hi:i≤p.steps.length) (hk:k≤i):(nodeAt l p j k).t=tabOf l ((befT p i).getD k 0):=by
 cases k with
 | zero=>rfl
 | succ q =>
  have:(befT p i).getD (q+1) 0=(stpAt p q).tt:=by
   unfold befT stpAt;have hq:q<p.steps.length:=by omega
   simp [hq,show q<i by omega]
  rw [this];rfl
theorem par_tab {l:List Table}{p:Pth}{i:Nat}(hi:i<p.steps.length) (h:(stpAt p i).ft∈befT p i) (j:Nat):(nodeAt l p j (parI p i)).t=tabOf l (stpAt p i).ft:=by
 rw [nodeAt_tab l p j (parI p i) (i:=i) (by omega) (parI_le p (by omega))];congr 1;unfold parI placeI;cases hx:ixI (stpAt p i).ft (befT p i) with
 | none=>exact absurd h (ixI_none.1 hx)
 | some q=>simp [ixI_at hx]
theorem cnt_le (t:Table) (r:Nat) (f:Nat→Nod) (E:Nat→Nat):∀ (l:List Nat) (x:Int) (a:Nat),(∀ k∈l,∀ s,0≤lookT (f k).tal s∧lookT (f k).tal s≤4096 ^ E k)→0≤x→x≤4096 ^ a →
  0≤(l.map f).foldl (mulK t r) x∧(l.map f).foldl (mulK t r) x≤4096 ^ (a+(l.map E).sum)
 | [],x,a,_,h0,h1=>⟨h0,by simpa using h1⟩
 | k::l,x,a,h,h0,h1=>by
  have hk:=h k (by simp);simp only [List.map_cons,List.foldl_cons,List.sum_cons];have key:0≤mulK t r x (f k)∧mulK t r x (f k)≤4096 ^ (a+E k):=by
   unfold mulK;split
   ·exact ⟨Int.le_refl _,Int.le_of_lt (Int.pow_pos (by decide))⟩
   ·have:=hk (cellT t (f k).fr r).text;refine ⟨Int.mul_nonneg h0 this.1,?_⟩;rw [Int.pow_add];exact Int.mul_le_mul h1 this.2 this.1 (Int.le_of_lt (Int.pow_pos (by decide)))
  have:=cnt_le t r f E l _ (a+E k) (fun k' hk'=>h k' (by simp [hk'])) key.1 key.2;rw [←Nat.add_assoc];exact this
def parN (p:Pth) (j:Nat):Nat:=if j=0 then 0 else parI p (j-1)
theorem sumN_shift (n:Nat) (f:Nat→Nat):sumN (n+1) f=f 0+sumN n (fun q=>f (q+1)):=by
 induction n with
 | zero=>simp [sumN,List.range_succ]
 | succ n ih=>rw [sumN_succ,ih,sumN_succ];omega
theorem kids_sum (p:Pth) (e:Nat→Nat) (n i:Nat) (hn:n≤p.steps.length):((kidsL p n i).map fun k=>e k+1).sum=kidS e (parN p) i (n+1):=by
 have h1:((kidsL p n i).map fun k=>e k+1).sum=sumN n (fun q=>if parI p q=i then e (q+1)+1 else 0):=by
  clear hn
  induction n with
  | zero=>rfl
  | succ n ih =>
   rw [kidsL_snoc,sumN_succ,←ih];by_cases h:parI p n=i
   ·simp [h]
   ·simp [h]
 rw [h1];unfold kidS;rw [sumN_shift];simp only [parN,if_true];rw [if_neg (by omega),Nat.zero_add];refine sumN_congr n _ _ fun q hq=>?_;have:=parI_le p (i:=q) (by omega);simp only [Nat.succ_ne_zero,if_false,Nat.add_sub_cancel];by_cases h:parI p q=i
 ·rw [if_pos h,if_pos ⟨h,by omega⟩]
 ·rw [if_neg h,if_neg (by omega)]
theorem sumN_zero:∀ N,sumN N (fun _=>0)=0
 | 0=>rfl
 | N+1=>by rw [sumN_succ,sumN_zero N]
theorem take_sum:∀ (l:List Nat) (j:Nat),(l.take j).sum≤l.sum
 | [],j=>by simp
 | a::l,0=>by simp
 | a::l,j+1=>by have:=take_sum l j;simp;omega
def talB (n:Nod) (E:Nat):Prop:=∀ s,0≤lookT n.tal s∧lookT n.tal s≤4096 ^ E
theorem pow_le {a b:Nat}(h:a≤b):(4096:Int) ^ a≤4096 ^ b:=by
 obtain ⟨c,rfl⟩:=Nat.exists_eq_add_of_le h;rw [Int.pow_add];have h1:(0:Int)<4096 ^ a:=Int.pow_pos (by decide);have h2:(0:Int)<4096 ^ c:=Int.pow_pos (by decide);have:=Int.mul_le_mul_of_nonneg_left (show (1:Int)≤4096 ^ c by omega) (Int.le_of_lt h1);omega
section
variable {l:List Table}{p:Pth}
theorem nextN (h:validE l p=0) {k:Nat}(hk:k<p.steps.length+1) {i:Nat}(hi:i=p.steps.length-k):(runD (nodesN l p p.steps.length) (p.steps.length+1) k)[i]?=some (nodeAt l p p.steps.length i):=by
 have hlen:=nodesN_len l p p.steps.length (Nat.le_refl _);obtain ⟨d,h1,_,h3⟩:=runD_shape hlen k (by omega) i _ (nodesN_get l p (Nat.le_refl _) (by omega));rw [h1,h3 (by omega)]
theorem nodeAt_kids (l:List Table) (p:Pth) (j k:Nat):(nodeAt l p j k).kids=kidsL p j k:=by cases k<;>rfl
theorem node_tab (l:List Table) (p:Pth) (j k:Nat):∃ n,(nodeAt l p j k).t=tabOf l n:=by cases k<;>exact ⟨_,rfl⟩
theorem kid_bound (h:validE l p=0) {k:Nat}(hk:k<p.steps.length+1) {i:Nat}(hi:i=p.steps.length-k) {e:Nat→Nat}
  (he:∀ q n,i<q→(runD (nodesN l p p.steps.length) (p.steps.length+1) k)[q]?=some n→talB n (e q+1)) (j r:Nat) (n:Nod) (hn:n=nodeAt l p p.steps.length i) :
  0≤cntR ((kidsOf (runD (nodesN l p p.steps.length) (p.steps.length+1) k) n).take j) n.t r∧cntR ((kidsOf (runD (nodesN l p p.steps.length) (p.steps.length+1) k) n).take j) n.t r≤4096 ^ kidS e (parN p) i (p.steps.length+1):=by
 have hlen:=nodesN_len l p p.steps.length (Nat.le_refl _);have hnk:n.kids=kidsL p p.steps.length i:=by rw [hn,nodeAt_kids]
 unfold cntR kidsOf;rw [←List.map_take,hnk];have:=cnt_le n.t r (fun q=>(runD (nodesN l p p.steps.length) (p.steps.length+1) k).getD q n) (fun q=>e q+1) ((kidsL p p.steps.length i).take j) 1 0 (fun q hq s=>?_) (by decide) (by decide)
 ·refine ⟨this.1,Int.le_trans this.2 ?_⟩;rw [Nat.zero_add];refine pow_le ?_;rw [←kids_sum p e _ i (Nat.le_refl _),List.map_take];exact take_sum _ _
 ·have hq:=List.mem_of_mem_take hq;obtain ⟨q',h1,h2,rfl⟩:=kidsL_mem.1 hq;have:=parI_le p (i:=q') (by omega);have hlt:q' + 1<(runD (nodesN l p p.steps.length) (p.steps.length+1) k).length:=by rw [runD_len,hlen];omega
  refine he (q' + 1) _ (by omega) ?_ s;rw [List.getD_eq_getElem?_getD,List.getElem?_eq_getElem hlt];rfl
theorem grow (h:validE l p=0):∀ k,k≤p.steps.length+1→∃ e:Nat→Nat,(∀ q n,p.steps.length+1-k≤q→(runD (nodesN l p p.steps.length) (p.steps.length+1) k)[q]?=some n→talB n (e q+1))∧rootS e (parN p) (p.steps.length+1-k) (p.steps.length+1)≤k
 | 0,_=>⟨fun _=>0,fun q n hq hn=>by
   have hlen:=nodesN_len l p p.steps.length (Nat.le_refl _)
   have:=(List.getElem?_eq_some_iff.1 hn).1
   simp only [runD] at this
   omega,by
   unfold rootS
   rw [sumN_congr _ _ (fun _=>0) fun j hj=>if_neg (by omega)]
   rw [sumN_zero];exact Nat.zero_le _⟩
 | k+1,hk=>by
  obtain ⟨e,h1,h2⟩:=grow h k (by omega);have hi:p.steps.length+1-(k+1)=p.steps.length-k:=by omega
  have hi1:p.steps.length+1-k=p.steps.length-k+1:=by omega
  have hlen:=nodesN_len l p p.steps.length (Nat.le_refl _);rw [hi1] at h1 h2;rw [hi];have hnx:=nextN h (k:=k) (by omega) rfl;have hpar:parN p (p.steps.length-k)<p.steps.length-k∨p.steps.length-k=0:=by
   by_cases e0:p.steps.length-k=0
   ·exact .inr e0
   ·refine .inl ?_;unfold parN;rw [if_neg e0];have:=parI_le p (i:=p.steps.length-k-1) (by omega);omega
  have hs:=rootS_step (e:=e) (par:=parN p) (i:=p.steps.length-k) (N:=p.steps.length+1) (by omega) hpar;refine ⟨_,fun q n hq hn=>?_,Nat.le_trans hs.1 (by omega)⟩;have hru:runD (nodesN l p p.steps.length) (p.steps.length+1) (k+1)=(runD (nodesN l p p.steps.length) (p.steps.length+1) k).set (p.steps.length-k) (doneR (runD (nodesN l p p.steps.length) (p.steps.length+1) k) (p.steps.length-k) (nodeAt l p p.steps.length (p.steps.length-k))):=by
   simp only [runD];unfold stepD;rw [show p.steps.length+1-1-k=p.steps.length-k by omega,hnx]
  rw [hru] at hn;by_cases eq:q=p.steps.length-k
  ·subst eq;have hlt:=(List.getElem?_eq_some_iff.1 hnx).1;rw [List.getElem?_set_self hlt] at hn;cases hn;simp only [if_true];have hkb:=fun r=>kid_bound h (k:=k) (by omega) rfl (e:=e) (fun q n hq=>h1 q n hq) (nodeAt l p p.steps.length (p.steps.length-k)).kids.length r _ rfl;have hM:(0:Int)≤4096 ^ kidS e (parN p) (p.steps.length-k) (p.steps.length+1):=Int.le_of_lt (Int.pow_pos (by decide));obtain ⟨tn,ht⟩:=node_tab l p p.steps.length (p.steps.length-k);have hrows:=(tabOf_rows (valid_path h).1 tn).1;rw [←ht] at hrows;intro s;have ht0:(doneR (runD (nodesN l p p.steps.length) (p.steps.length+1) k) (p.steps.length-k) (nodeAt l p p.steps.length (p.steps.length-k))).tal=if p.steps.length-k=0 then [] else talR (nodeAt l p p.steps.length (p.steps.length-k)).t (nodeAt l p p.steps.length (p.steps.length-k)).own (cntR (kidsOf (runD (nodesN l p p.steps.length) (p.steps.length+1) k) (nodeAt l p p.steps.length (p.steps.length-k))) (nodeAt l p p.steps.length (p.steps.length-k)).t) (rowsN (nodeAt l p p.steps.length (p.steps.length-k)).t):=rfl
   rw [ht0];split
   ·simp only [lookT,keysT,ixS,List.map_nil];exact ⟨by decide,Int.le_of_lt (Int.pow_pos (by decide))⟩
   ·have:=talR_bound (t:=(nodeAt l p p.steps.length (p.steps.length-k)).t) (own:=(nodeAt l p p.steps.length (p.steps.length-k)).own) (n:=rowsN (nodeAt l p p.steps.length (p.steps.length-k)).t) (M:=4096 ^ kidS e (parN p) (p.steps.length-k) (p.steps.length+1)) (cnt:=cntR (kidsOf (runD (nodesN l p p.steps.length) (p.steps.length+1) k) (nodeAt l p p.steps.length (p.steps.length-k))) (nodeAt l p p.steps.length (p.steps.length-k)).t) (fun r hr=>by
     have:=hkb r
     rwa [List.take_of_length_le (by simp [kidsOf])] at this) hM _ (Nat.le_refl _) s
    refine ⟨this.1,Int.le_trans this.2 ?_⟩;rw [Int.pow_succ,Int.mul_comm];exact Int.mul_le_mul_of_nonneg_left (by omega) hM
  ·rw [List.getElem?_set_ne (Ne.symm eq)] at hn;simp only [if_neg eq];exact h1 q n (by omega) hn
theorem cntOK_of (h:validE l p=0) (k:Nat) (hk:k<p.steps.length+1):CntOK (runD (nodesN l p p.steps.length) (p.steps.length+1) k) (p.steps.length+1-1-k):=by
 obtain ⟨e,h1,h2⟩:=grow h k (by omega);have hv:=valid_path h;have hlen:=nodesN_len l p p.steps.length (Nat.le_refl _);have hi1:p.steps.length+1-k=p.steps.length-k+1:=by omega
 have hi2:p.steps.length+1-1-k=p.steps.length-k:=by omega
 rw [hi1] at h1 h2;rw [hi2];have hnx:=nextN h (k:=k) (by omega) rfl;obtain ⟨hlt,hge⟩:=List.getElem?_eq_some_iff.1 hnx;obtain ⟨tn,ht⟩:=node_tab l p p.steps.length (p.steps.length-k);have hrows:=tabOf_rows (valid_path h).1 tn;rw [←ht] at hrows;have hkl:(kidsL p p.steps.length (p.steps.length-k)).length≤p.steps.length:=by
  unfold kidsL;rw [List.length_map];exact Nat.le_trans (List.length_filter_le _ _) (by simp)
 have hpar:parN p (p.steps.length-k)<p.steps.length-k∨p.steps.length-k=0:=by
  by_cases e0:p.steps.length-k=0
  ·exact .inr e0
  ·refine .inl ?_;unfold parN;rw [if_neg e0];have:=parI_le p (i:=p.steps.length-k-1) (by omega);omega
 have hs:=rootS_step (e:=e) (par:=parN p) (i:=p.steps.length-k) (N:=p.steps.length+1) (by omega) hpar;refine ⟨hlt,by rw [runD_len,hlen];omega,?_,?_,?_,?_,?_,?_⟩
 ·rw [hge];exact hrows.2
 ·rw [hge];exact hrows.1
 ·rw [hge,nodeAt_kids];omega
 ·rw [hge];intro q hq;rw [nodeAt_kids] at hq;obtain ⟨q',g1,g2,rfl⟩:=kidsL_mem.1 hq;have g3:=parI_le p (i:=q') (by omega);obtain ⟨d,d1,d2,_⟩:=runD_shape hlen k (by omega) (q' + 1) _ (nodesN_get l p (Nat.le_refl _) (show q' + 1≤p.steps.length by omega));obtain ⟨d3,d4⟩:=List.getElem?_eq_some_iff.1 d1;have hsf:=pathB_step hv.2.2 g1;refine ⟨d3,by omega,?_,?_⟩
  ·rw [d4,←g2,par_tab g1 hsf.old];show (stpAt p q').fc.toNat<_;have:=hsf.fc;omega
  ·rw [d4];have:=d2 (by omega);cases d with
   | none=>cases this
   | some d=>exact ⟨d,rfl⟩
 ·intro h0;rw [hge];obtain ⟨q',hq'⟩:∃ q',p.steps.length-k=q' + 1:=⟨p.steps.length-k-1,by omega⟩
  rw [hq'];have hsf:=pathB_step hv.2.2 (show q' < p.steps.length by omega);show (stpAt p q').tc.toNat<(tabOf l (stpAt p q').tt).cols.length;have:=hsf.tc;omega
 ·intro r hr j hj;rw [hge];have hkb:=kid_bound h (k:=k) (by omega) rfl (e:=e) (fun q n hq=>h1 q n hq) j r _ rfl;refine ⟨hkb.1,Int.le_trans hkb.2 (Int.le_trans (pow_le (b:=4) (by omega)) (by decide))⟩
end
end Go.Sx.Sp
