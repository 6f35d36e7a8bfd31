/- Loops over ranges, and more of the shape of arguments. -/
import Derived.Test.YthlokmbefpjmgaaGreatDoorSxFive
import Derived.Sort.Grow
import Derived.Deep.Draws
import Derived.Shelf.SlSortCmp.NoneTotal
set_option linter.unusedVariables false
set_option linter.unusedSimpArgs false
namespace Go.Sx
open Go Go.RowKit Go.Sort
@[reducible] def GQ:Glob:=⟨fun _=>True,[],True,fun _ _ _ _=>trivial⟩
theorem grow_of {w w':World}(ho:w'.os=w.os) (ht:w'.tape=w.tape) (hp:w'.output=w.output) (hd:w.drawn≤w'.drawn) (hz:w.heap.size≤w'.heap.size)
  (hb:∀ b,b<w.heap.size→w'.heap[b]?=w.heap[b]?):∃ q os,w'=grow (w.drewN q) os:=by
 refine ⟨w'.drawn-w.drawn,w'.heap.extract w.heap.size w'.heap.size,?_⟩;have hh:w'.heap=w.heap++w'.heap.extract w.heap.size w'.heap.size:=by
  apply Array.ext_getElem?;intro b;by_cases h:b<w.heap.size
  ·rw [Array.getElem?_append_left h];exact hb b h
  ·rw [Array.getElem?_append_right (by omega),Array.getElem?_extract];by_cases h2:b<w'.heap.size
   ·rw [if_pos (by omega),show w.heap.size+(b-w.heap.size)=b by omega]
   ·rw [if_neg (by omega),Array.getElem?_eq_none (by omega)]
 have hdr:w.drawn+(w'.drawn-w.drawn)=w'.drawn:=by omega
 refine Eq.trans (b:=World.mk w'.heap w'.tape w'.drawn w'.os w'.output) rfl ?_;rw [ho,ht,hp];show World.mk w'.heap w.tape w'.drawn w.os w.output=World.mk (w.heap++w'.heap.extract w.heap.size w'.heap.size) w.tape (w.drawn+(w'.drawn-w.drawn)) w.os w.output;rw [hdr,←hh]
theorem quiet_calls {P:Program}{g:Nat}{args:List V}{v:V}(h:@Spec GQ P g args [] v []) {w:World}{F:Nat→Prop}{cargs:List Value}(hl:cargs.length=args.length) (hF:∀ b,F b→b<w.heap.size)
  (ha:∀ (j:Nat) u c,args[j]?=some u→cargs[j]?=some c→VRel w F (fun _ _=>none) u c) (hs:∀ u∈args,u.sites=[]) :
  Calls P g cargs.toArray w fun e w'=>∃ cv,e=.returned cv∧(∃ F' m',VRel w' F' m' v cv)∧∃ q os,w'=grow (w.drewN q) os:=by
 have hOwn:∀ b,¬ Own (fun _ _=>none) b:=fun b ⟨k,i,x,hx,_⟩=>(by cases hx)
 have hR:@HRel GQ F (fun _ _=>none) [] w:=
  @HRel.mk GQ F _ [] w (fun k i=>by simp [heapL,lookH,look]) (fun k i blk hb=>(by simp [heapL,lookH,look] at hb)) (fun k i x k' i' x' hx=>(by cases hx)) (fun k i x hx=>(by cases hx)) (by simp) ⟨trivial,fun b hb=>(by cases hb)⟩
 refine (@Spec.calls GQ P g args [] v [] h F (fun _ _=>none) w cargs hl hF hR (fun j u c hj hc=>?_) (fun u hu k hk=>(by rw [hs u hu] at hk;cases hk))).mono fun e w' ⟨cv,m',h1,h2,_,_,_,h3⟩=>?_
 ·exact (ha j u c hj hc).mono (fun b _ hn=>⟨rfl,fun ho=>ho.elim hn (hOwn b)⟩) (Nat.le_refl _) (fun _ _ _ h=>h) (fun s i x' hx=>(by cases hx))
 ·exact ⟨cv,h1,⟨_,_,h2⟩,grow_of (@Ext.os GQ _ _ _ h3) (@Ext.tape GQ _ _ _ h3).1 (@Ext.output GQ _ _ _ h3) ((@Ext.tape GQ _ _ _ h3).2 trivial) (@Ext.size GQ _ _ _ h3) (fun b hb=>@Ext.block GQ _ _ _ h3 b hb (hOwn b))⟩
theorem Spec.ofQuiet [Glob] {P:Program}{g:Nat}{args:List V}{k:IntKind}{n:Int}(h:@Spec GQ P g args [] (.int k n) []) (hs:∀ u∈args,u.sites=[]):Spec P g args [] (.int k n) []:=by
 refine ⟨@Spec.enter GQ _ _ _ _ _ _ h,fun Fr m w cargs hl hF hH ha hks=>?_⟩;have hm:∀ k i,m k i=none:=fun k i=>by
  cases hq:m k i with
  | none=>rfl
  | some x =>
   have:=(hH.dom k i).1 (by rw [hq];rfl);simp [heapL,lookH,look] at this
 have hOwn:∀ b,¬ Own m b:=fun b ⟨k,i,x,hx,_⟩=>(by rw [hm] at hx;cases hx)
 have e:∀ b,FrO Fr m b→b<w.heap.size:=fun b hb=>hb.elim (hF b) (fun ho=>(hOwn b ho).elim);refine (quiet_calls h (w:=w) (F:=FrO Fr m) hl e (fun j u c hj hc=>(ha j u c hj hc).pure (fun b _ hn=>⟨rfl,hn⟩) (Nat.le_refl _) (fun _ _ _ h=>h) (hs u (List.mem_of_getElem? hj))) hs).mono fun e' w' ⟨cv,h1,⟨F',m',h2⟩,q,os,h3⟩=>?_;have hcv:=h2.int_inv;subst hcv;subst h3;have hsame:∀ b,b<w.heap.size→(grow (w.drewN q) os).heap[b]?=w.heap[b]?:=fun b hb=>by show (w.heap++os)[b]?=_;rw [Array.getElem?_append_left hb]
 have hsz:w.heap.size≤(grow (w.drewN q) os).heap.size:=by show w.heap.size≤(w.heap++os).size;rw [Array.size_append];omega
 refine ⟨_,m,h1,.int _ _,⟨hH.dom,fun k i blk hb=>(by simp [heapL,lookH,look] at hb),fun k i x k' i' x' hx=>(by rw [hm] at hx;cases hx),fun k i x hx=>(by rw [hm] at hx;cases hx),by simp,hH.glob.tr (fun b hb hn=>⟨hsame b hb,hn⟩) hsz⟩,
  fun k i x hx=>(by rw [hm] at hx;cases hx),fun k hk i x hx=>(by rw [hm] at hx;cases hx),⟨rfl,⟨rfl,fun _=>Nat.le_add_right _ _⟩,rfl,hsz,fun b hb _=>hsame b hb,fun b e n hb=>?_⟩⟩
 rw [shape?_of_heap (hsame b (shape_lt hb))];exact hb
end Go.Sx
namespace Go.Sx
open Go Go.RowKit Go.Proofs Go.Sort Go.Shelf
section
variable {α':Type} [Inhabited α']
theorem sortWorldK_heap (enc:α'→List Value) (k:Nat) (w:World) (blk off n:Nat) (d:Array α') (os:Array Obj) {b:Nat}(hb:b<w.heap.size) :
  (sortWorldK enc k w blk off n d os).heap[b]?=if b=blk then (w.heap[b]?).map (onCells (putCells id off (flatK enc k d))) else w.heap[b]?:=by
 unfold sortWorldK grow putRowK putRow mapBlock Sort.ahead;simp only;rw [Array.getElem?_append_left (by rw [Array.size_modify];exact hb),Array.getElem?_modify];by_cases h:b=blk
 ·rw [if_pos h,if_pos h.symm]
 ·rw [if_neg h,if_neg (fun e=>h e.symm)]
end
theorem sitesL_nil:∀ {cs:List V},(∀ u∈cs,u.sites=[])→V.sites (.agg cs)=[]
 | [],_=>rfl
 | c::cs,h=>by
  have h1:=h c (by simp);have h2:=sitesL_nil (cs:=cs) fun u hu=>h u (by simp [hu]);simp only [V.sites,sitesL] at h2 ⊢;rw [h1,h2];rfl
set_option maxHeartbeats 4000000 in
theorem sortFunc_spec [G:Glob] {P:Program}{ρ:Ren}{α:Type}(L:SlLaysF0.n6 P ρ) (k:Nat) (k0:0<k) (aE:∀ w,(isAgg (ρ.t 24)).run P w=.ok true w) (zE:∀ w,(Go.sizeOf (ρ.t 24)).run P w=.ok k w)
  (f:α→List V) (hk:∀ a,(f a).length=k) (cf:α→α→Int) (hO:SWO (ltOf cf)) (hT:∀ a b,ltOf cf a b=false→ltOf cf b a=false→a=b) (g:Nat)
  (caps:List V) (hcs:∀ u∈caps,u.sites=[]) (hcmp:∀ a b,@Spec GQ P g ([.agg (f a),.agg (f b)]++caps) [] (.int .i64 (cf a b)) []) (l:List α) (hn:l.length<4611686018427387904) :
  Spec P (ρ.f 6) [.osl 0 0 0 (l.map f).length (l.map f).length,.fn g caps] [(0,.rows k (l.map f) (some []))] (.tup []) [(0,.rows k ((l.mergeSort fun a b=>!(ltOf cf b a)).map f) (some []))]:=by
 refine ⟨L.f6.enters rfl,fun Fr m w cargs hl hF hH ha hs=>?_⟩
 match cargs,hl with
 | [c0,c1],_ =>
 have h0:=ha 0 _ c0 rfl rfl;have h1:=ha 1 _ c1 rfl rfl;obtain ⟨cc,hcc,hcl,hcv⟩:∃ cc:List Value,c1=.func (.func g) #[] cc.toArray∧caps.length=cc.length∧∀ (j:Nat) v x,caps[j]?=some v→cc[j]?=some x→VRel w (FrO Fr m) m v x:=by
  generalize hu:V.fn g caps=u at h1;cases h1 with
  | fn g' cs c hl hv =>
   cases hu;exact ⟨c,rfl,hl,hv⟩
  | _=>cases hu
 subst hcc;obtain ⟨x,hx⟩:=Option.isSome_iff_exists.1 ((hH.dom 0 0).2 Nat.zero_lt_one);have hB:RowsOK w (FrO Fr m) m x k (l.map f) (some []):=by
  obtain ⟨x',hx',hB⟩:=hH.blk 0 0 (.rows k (l.map f) (some [])) rfl;cases hx.symm.trans hx';exact hB
 have hml:(l.map f).length=l.length:=List.length_map ..;have hosl:OslOK w x 0 (l.map f).length c0:=by
  cases h0 with
  | osl _ _ _ _ _ _ hc h=>exact ((h x hx).2 hB.hn.symm).2
 have fin:∀ (w':World) (l':List α),l'.length=l.length→(∀ b,b<w.heap.size→¬ FrO Fr m b→w'.heap[b]?=w.heap[b]?)→w.heap.size≤w'.heap.size→(∀ b e n,w.shape? b=some (e,n)→w'.shape? b=some (e,n)) →
   w'.os=w.os→TapeW w' w→w'.output=w.output→(∀ b,b<w.heap.size→¬ Own m b→w'.heap[b]?=w.heap[b]?)→RowsOK w' (FrO Fr m) m x k (l'.map f) (some []) →
   ∃ cv m',(Ending.returned (.tuple #[]))=.returned cv∧VRel w' (FrO Fr m') m' (.tup []) cv∧HRel Fr m' [(0,.rows k (l'.map f) (some []))] w'∧(∀ k i x,m' k i=some x→x.nil=false→Own m x.b∨w.heap.size≤x.b) ∧
   (∀ q,memB q (keys [(0,Blk.rows k (l.map f) (some []))])=true→∀ i x,m' q i=some x→∃ x0,m q i=some x0∧Adv x0 x)∧Ext (Own m) w w':=by
  intro w' l' hl' hd hz hsh ho ht hp hb hR;refine ⟨_,m,rfl,.tup [] [] rfl (fun j v x hj=>by simp at hj),⟨fun q i=>?_,fun q i b hb=>?_,hH.inj,fun q i y hy hny=>⟨(hH.fr q i y hy hny).1,Nat.lt_of_lt_of_le (hH.fr q i y hy hny).2 hz⟩,fun p hp=>?_,hH.glob.tr (fun b hb hn=>⟨hd b hb hn,hn⟩) hz⟩,
   fun q i y hy hny=>.inl ⟨q,i,y,hy,hny,rfl⟩,fun q _ i y hy=>⟨y,hy,.inl rfl⟩,⟨ho,ht,hp,hz,hb,hsh⟩⟩
  ·rw [hH.dom q i];simp only [lookH_heapL,look_cons];by_cases hq:q=0<;>simp [hq,look]
  ·simp only [lookH_heapL,look_cons] at hb;by_cases hq:q=0
   ·subst hq;simp only [if_true] at hb;cases i with
    | zero=>cases hb;exact ⟨x,hx,hR⟩
    | succ i=>simp at hb
   ·simp [hq,look] at hb
  ·simp only [List.mem_singleton] at hp;subst hp;intro q hq;cases hq
 by_cases hl0:l=[]
 ·subst hl0;rw [List.mergeSort_nil];obtain ⟨p,cap,rfl⟩:∃ p cap,c0=.slice p 0 cap:=by
   rcases hosl with ⟨_,a,h⟩ | ⟨_,cap,e,n,h,_⟩
   ·exact ⟨a,0,h⟩
   ·exact ⟨_,cap,h⟩
  refine (AnyF.slices_SortFunc_none L p cap _ w).mono fun e w' ⟨he,hw⟩=>?_;subst he;subst hw;exact fin w' [] rfl (fun _ _ _=>rfl) (Nat.le_refl _) (fun _ _ _ h=>h) rfl TapeW.self rfl (fun _ _ _=>rfl) hB
 ·have hlen:0<l.length:=List.length_pos_iff.2 hl0;have hnil:x.nil=false:=by
   cases h:x.nil with
   | false=>rfl
   | true =>
    have:=hB.nil h;rw [List.map_eq_nil_iff] at this;exact absurd this hl0
  obtain ⟨_,cap,e0,n0,rfl,hcap,_⟩:x.nil=false∧∃ cap e n,c0=.slice (some ⟨x.b,x.base+0*x.sz,none⟩) (l.map f).length cap∧(l.map f).length≤cap∧(cap≤maxLen∧w.shape? x.b=some (e,n)∧x.base+(0+cap)*x.sz≤n):=by
   rcases hosl with ⟨h,_⟩ | h
   ·rw [hml] at h;omega
   ·exact h
  have hblk:x.b<w.heap.size:=(hH.fr 0 0 x hx hnil).2;have hOwn:Own m x.b:=⟨0,0,x,hx,hnil,rfl⟩
  have hne:∀ b,¬ FrO Fr m b→b≠x.b:=fun b hb e=>hb (.inr (e ▸ hOwn));have hFr:∀ b,FrO Fr m b→b<w.heap.size:=fun b hb=>hb.elim (hF b) fun ⟨s,i,y,hy,hny,e⟩=>e ▸ (hH.fr s i y hy hny).2;obtain ⟨ccs,ce,cfz,hcb,hfz,hsz,hone⟩:=hB.blk hnil;have hcell:∀ i (hi:i<l.length) (j:Nat) v,(f l[i])[j]?=some v→v.one=true∧v.sites=[]∧∃ c,w.cell? ⟨x.b,x.base+i*k+j,none⟩=some c∧c.oneCell'=true∧VRel w (FrO Fr m) m v c:=fun i hi j v hj=>by
   obtain ⟨g1,g2,c,g3,g4,g5⟩:=hB.cell i (f l[i]) j v (by rw [List.getElem?_map,List.getElem?_eq_getElem hi];rfl) hj;exact ⟨g1,(List.eq_nil_iff_forall_not_mem.2 fun s hs=>by have:=g2 [] rfl s hs;cases this),c,g3,g4,g5⟩
  let Good:α×List Value→Prop:=fun p=>p.2.length=k∧(∀ v∈p.2,v.oneCell'=true)∧∀ (j:Nat) u y,(f p.1)[j]?=some u→p.2[j]?=some y→VRel w (FrO Fr m) m u y
  have hsite:∀ i (hi:i<l.length),∀ u∈f l[i],u.one=true∧u.sites=[]:=fun i hi u hu=>by
   obtain ⟨j,hj⟩:=List.getElem?_of_mem hu;obtain ⟨g1,g2,_⟩:=hcell i hi j u hj;exact ⟨g1,g2⟩
  let cs:Nat→List Value:=fun i=>(List.range k).map fun j=>(w.cell? ⟨x.b,x.base+i*k+j,none⟩).getD .nilFunc
  have hcsj:∀ i j,j<k→(cs i)[j]?=some ((w.cell? ⟨x.b,x.base+i*k+j,none⟩).getD .nilFunc):=fun i j hj=>by
   simp only [cs,List.getElem?_map,List.getElem?_range hj,Option.map_some]
  have hgood:∀ i (hi:i<l.length),Good (l[i],cs i):=fun i hi=>by
   refine ⟨by simp [cs],fun v hv=>?_,fun j u y hj hy=>?_⟩
   ·obtain ⟨j,hj⟩:=List.getElem?_of_mem hv;have hjk:j<k:=by
     have:=(List.getElem?_eq_some_iff.1 hj).1;simpa [cs] using this
    have hju:j<(f l[i]).length:=by rw [hk];exact hjk
    obtain ⟨_,_,c,g3,g4,_⟩:=hcell i hi j _ (List.getElem?_eq_getElem hju);rw [hcsj i j hjk,g3] at hj;cases hj;exact g4
   ·have hjk:j<k:=by have:=(List.getElem?_eq_some_iff.1 hj).1;rwa [hk] at this
    obtain ⟨_,_,c,g3,_,g5⟩:=hcell i hi j u hj;rw [hcsj i j hjk,g3] at hy;cases hy;exact g5
  let A:={p:α×List Value // Good p∧∀ u∈f p.1,u.one=true∧u.sites=[]}
  haveI:Inhabited A:=⟨⟨(l[0],cs 0),hgood 0 hlen,hsite 0 hlen⟩⟩
  let d:Array A:=Array.ofFn (n:=l.length) fun i=>⟨(l[i.1],cs i.1),hgood i.1 i.2,hsite i.1 i.2⟩
  have hds:d.size=l.length:=Array.size_ofFn;have hdi:∀ i (hi:i<l.length),(d[i]!).1=(l[i],cs i):=fun i hi=>by
   rw [getElem!_pos d i (by rw [hds];exact hi)];simp only [d,Array.getElem_ofFn]
  let enc:A→List Value:=fun p=>p.1.2
  let cf':A→A→Int:=fun p q=>cf p.1.1 q.1.1
  have hO':SWO (ltOf cf'):=⟨fun p=>hO.irrefl p.1.1,fun p q r=>hO.trans p.1.1 q.1.1 r.1.1,fun p q r=>hO.ntrans p.1.1 q.1.1 r.1.1⟩
  have hek:∀ p:A,(enc p).length=k:=fun p=>p.2.1.1;have hHo:HoldsK enc k w x.b x.base d:=by
   intro j hj;rw [size_flatK,hds] at hj;have hjk:j % k<k:=Nat.mod_lt _ k0;have hji:j / k<l.length:=Nat.div_lt_of_lt_mul (by rw [Nat.mul_comm];exact hj);have hjm:j / k*k+j % k=j:=by rw [Nat.mul_comm];exact Nat.div_add_mod j k
   obtain ⟨_,_,c,g3,_,_⟩:=hcell (j / k) hji (j % k) _ (List.getElem?_eq_getElem (by rw [hk];exact hjk));have hb1:x.base+j / k*k+j % k=x.base+j:=by omega
   rw [hb1] at g3;refine ⟨?_,?_⟩
   ·rw [get_flatK enc k d j (by rw [hds];exact hj),g3];have h1:enc d[j / k]! = cs (j / k):=by show (d[j / k]!).1.2=_;rw [hdi _ hji]
    have h2:=hcsj (j / k) (j % k) hjk;rw [hb1,g3] at h2;rw [h1];obtain ⟨h3,h4⟩:=List.getElem?_eq_some_iff.1 h2;rw [getElem!_pos (cs (j / k)) (j % k) h3,h4];rfl
   ·simp only [World.frozen?,hcb];have:=hfz (x.base+j);simp only [Bool.and_eq_false_iff,decide_eq_false_iff_not];simp only [Decidable.not_and_iff_or_not] at this;exact this
  have hheap:∀ (n:Nat) (os:Array Obj) (dk:Array A) b,b<w.heap.size→b≠x.b→(sortWorldK enc k w x.b x.base n dk os).heap[b]?=w.heap[b]?:=fun n os dk b hb hn=>by rw [sortWorldK_heap enc k w x.b x.base n dk os hb,if_neg hn]
  have hsize:∀ (n:Nat) (os:Array Obj) (dk:Array A),w.heap.size≤(sortWorldK enc k w x.b x.base n dk os).heap.size:=fun n os dk=>SWK.le ⟨n,os,rfl⟩;have hshape:∀ (n:Nat) (os:Array Obj) (dk:Array A) b e q,w.shape? b=some (e,q)→(sortWorldK enc k w x.b x.base n dk os).shape? b=some (e,q):=fun n os dk b e q hb=>by
   have hlt:=shape_lt hb;by_cases hn:b=x.b
   ·subst hn;simp only [World.shape?,sortWorldK_heap enc k w x.b x.base n dk os hlt,if_true,hcb,Option.map_some,onCells] at hb ⊢;simpa [putCells] using hb
   ·rw [shape?_of_heap (hheap n os dk b hlt hn)];exact hb
  have hcl:CmpLays P g cc.toArray enc k cf' x.b x.base d.size w:=by
   intro mm os dk hsk p q;have hv:∀ r:A,VRel (sortWorldK enc k w x.b x.base mm dk os) (FrO Fr m) (fun _ _=>none) (.agg (f r.1.1)) (.agg (enc r).toArray):=fun r =>
    .agg _ _ (by rw [hk,hek]) r.2.1.2.1 (fun j v hj=>(r.2.2 v (List.mem_of_getElem? hj)).1) fun j v y hj hy =>
     (r.2.1.2.2 j v y hj hy).pure (fun b hb hn=>⟨hheap mm os dk b hb (hne b hn),hn⟩) (hsize mm os dk) (hshape mm os dk) (r.2.2 v (List.mem_of_getElem? hj)).2
   have:=quiet_calls (hcmp p.1.1 q.1.1) (w:=sortWorldK enc k w x.b x.base mm dk os) (F:=FrO Fr m) (cargs:=[.agg (enc p).toArray,.agg (enc q).toArray]++cc) (by simp [hcl]) (fun b hb=>Nat.lt_of_lt_of_le (hFr b hb) (hsize mm os dk))
    (fun j u c hj hc=>by
     match j with
     | 0=>cases hj;cases hc;exact hv p
     | 1=>cases hj;cases hc;exact hv q
     | j+2 =>
      have hj:caps[j]?=some u:=hj
      have hc:cc[j]?=some c:=hc
      exact (hcv j u c hj hc).pure (fun b hb hn=>⟨hheap mm os dk b hb (hne b hn),hn⟩) (hsize mm os dk) (hshape mm os dk) (hcs u (List.mem_of_getElem? hj)))
    (fun u hu=>by
     rcases List.mem_append.1 hu with hu | hu
     ·simp only [List.mem_cons,List.not_mem_nil,or_false] at hu
      rcases hu with rfl | rfl
      ·exact sitesL_nil fun u hu=>(p.2.2 u hu).2
      ·exact sitesL_nil fun u hu=>(q.2.2 u hu).2
     ·exact hcs u hu)
   have hap:#[Value.agg (enc p).toArray,.agg (enc q).toArray]++cc.toArray=([Value.agg (enc p).toArray,.agg (enc q).toArray]++cc).toArray:=by simp
   rw [hap];exact this.mono fun e w' ⟨cv,he,⟨_,_,hv⟩,hg⟩=>⟨by rw [he,hv.int_inv],hg⟩
  have hcon:=AnyQ.slices_SortFunc L k aE zE enc hek (fun p v hv=>p.2.1.2.1 v hv) cf' hO' g cc.toArray x.b x.base cap d w (@Spec.enter GQ _ _ _ _ _ _ (hcmp l[0] l[0])) hcl hHo hblk (by rw [hds];exact hn);rw [hds] at hcon;have hc0:([Value.slice (some ⟨x.b,x.base+0*x.sz,none⟩) (l.map f).length cap,.func (.func g) #[] cc.toArray]:List Value).toArray=#[.slice (some ⟨x.b,x.base,none⟩) l.length cap,.func (.func g) #[] cc.toArray]:=by
   rw [Nat.zero_mul,Nat.add_zero,hml]
  rw [hc0];refine hcon.mono fun e w' ⟨he,d',n,os,hp,hso,hw⟩=>?_;subst he;have hlt':∀ p q:A,ltOf cf' p q=ltOf cf p.1.1 q.1.1:=fun _ _=>rfl;obtain ⟨hps,_,hperm⟩:=hp;have hds':d'.size=l.length:=by rw [hps,hds]
  rw [show d'.extract 0 l.length=d' by rw [←hds'];exact Array.extract_size,show d.extract 0 l.length=d by rw [←hds];exact Array.extract_size] at hperm;have hdl:d.toList.map (fun p=>p.1.1)=l:=by
   refine List.ext_getElem (by rw [List.length_map,Array.length_toList,hds]) fun i h1 h2=>?_;have h3:=hdi i h2;rw [getElem!_pos d i (by rw [hds];exact h2)] at h3;rw [List.getElem_map,Array.getElem_toList,h3]
  have hl':d'.toList.map (fun p=>p.1.1)=l.mergeSort fun a b=>!(ltOf cf b a):=by
   refine List.Perm.eq_of_pairwise (le:=fun a b=>(!ltOf cf b a)=true) ?_ ?_ ?_ (((hperm.map (fun p:A=>p.1.1)).trans (by rw [hdl])).trans (List.mergeSort_perm _ _).symm)
   ·intro a b _ _ h1 h2;simp only [Bool.not_eq_true'] at h1 h2;exact hT a b h2 h1
   ·rw [List.pairwise_iff_getElem];intro i j hi hj hij;rw [List.length_map,Array.length_toList] at hi hj;have:=hso i j (Nat.zero_le _) hij (by omega);rw [getElem!_pos d' j hj,getElem!_pos d' i hi] at this;rw [List.getElem_map,List.getElem_map,Array.getElem_toList,Array.getElem_toList,Bool.not_eq_true'];exact this
   ·refine List.pairwise_mergeSort ?_ ?_ _
    ·intro a b c h1 h2;simp only [Bool.not_eq_true'] at h1 h2 ⊢;exact hO.ntrans c b a h2 h1
    ·intro a b;cases h:ltOf cf b a with
     | false=>simp
     | true =>
      cases h2:ltOf cf a b with
      | false=>simp
      | true=>have:=hO.trans a b a h2 h;rw [hO.irrefl] at this;cases this
  rw [←hl'];have hdk:d'.size=d.size:=hps;have hHo':=holdsK_sortWorldK enc k w x.b x.base n d d' os hblk hHo hdk;subst hw;refine fin _ _ (by simpa using hds') (fun b hb hn=>hheap n os d' b hb (hne b hn)) (hsize n os d') (hshape n os d') rfl ⟨rfl,fun _=>Nat.le_add_right _ _⟩ rfl (fun b hb hn=>hheap n os d' b hb fun e=>hn (e ▸ hOwn)) ?_;have hml':((d'.toList.map fun p=>p.1.1).map f).length=l.length:=by simpa using hds'
  refine ⟨hB.hsz,by rw [hB.hn,hml,hml'],fun i r hi=>?_,fun h=>(by rw [hnil] at h;cases h),fun _=>?_,fun i r j v hi hj=>?_⟩
  ·rw [List.getElem?_map] at hi;obtain ⟨a,_,rfl⟩:=Option.map_eq_some_iff.1 hi;exact hk a
  ·refine ⟨putCells id x.base (flatK enc k d') ccs,ce,cfz,by rw [sortWorldK_heap enc k w x.b x.base n d' os hblk,if_pos rfl,hcb];rfl,hfz,by rw [hml'];rw [hml] at hsz;simpa [putCells] using hsz,fun c hc=>?_⟩;obtain ⟨i,hi,rfl⟩:=Array.getElem_of_mem hc;simp only [putCells,Array.getElem_mapIdx];split
   ·rename_i hr;rw [size_flatK] at hr;have hq:i-x.base<d'.size*k:=by omega
    show ((flatK enc k d')[i-x.base]!).oneCell'=true;rw [get_flatK enc k d' _ hq];have hmk:(i-x.base) % k<k:=Nat.mod_lt _ k0;rw [getElem!_pos _ _ (by rw [hek];exact hmk)];exact (d'[(i-x.base) / k]!).2.1.2.1 _ (List.getElem_mem _)
   ·exact hone _ (Array.getElem_mem _)
  ·rw [List.getElem?_map,List.getElem?_map] at hi;obtain ⟨a,ha1,rfl⟩:=Option.map_eq_some_iff.1 hi;obtain ⟨p,hp1,rfl⟩:=Option.map_eq_some_iff.1 ha1;have hil:i<d'.size:=by
    have:=(List.getElem?_eq_some_iff.1 hp1).1
    rwa [Array.length_toList] at this
   have hpi:d'[i]! = p:=by
    rw [getElem!_pos d' i hil];rw [List.getElem?_eq_getElem (by rw [Array.length_toList];exact hil),Array.getElem_toList] at hp1;exact Option.some.inj hp1
   have hjk:j<k:=by have:=(List.getElem?_eq_some_iff.1 hj).1;rwa [hk] at this
   have hje:j<(enc p).length:=by rw [hek];exact hjk
   have hc:=HoldsK.cells hHo' hek hil j ((enc p)[j]) (by rw [hpi];exact List.getElem?_eq_getElem hje);rw [Addr.add_lit] at hc;have hu:=p.2.2 v (List.mem_of_getElem? hj);refine ⟨hu.1,fun l hl s hs=>(by rw [hu.2] at hs;cases hs),_,hc,p.2.1.2.1 _ (List.getElem_mem hje),?_⟩;exact (p.2.1.2.2 j v _ hj (List.getElem?_eq_getElem hje)).pure (fun b hb hn=>⟨hheap n os d' b hb (hne b hn),hn⟩) (hsize n os d') (hshape n os d') hu.2
end Go.Sx
namespace Go.Sx
open Go Go.RowKit Go.Proofs Go.Sort Go.Shelf
section
variable {α':Type} [Inhabited α']
end
end Go.Sx
