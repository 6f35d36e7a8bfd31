/- Contracts of what a plan counts, of relations of columns, and of unused rows. -/
import Derived.Test.YtfigakbjegopkaaGreatDoorJTwo
import Derived.Test.YtfigakbjegopkaaGreatDoorSxFive
import Derived.Test.YtfigakbjegopkaaGreatDoorSxFour
set_option linter.unusedVariables false
set_option linter.unusedSimpArgs false
namespace Go.Sx.Sp
open Go Go.Sx Go.Proofs
attribute [local irreducible] GoodW famL
set_option maxHeartbeats 1000000 in
theorem cloneInts (rows:List (List V)) (hz:rowsSz rows 1) (hlen:rows.length≤4294967296):Spec Tryz.prog 90 [.sl rows false] [] (.sl rows false) []:=by
 have hfit:fitsV rows.length 8:=fitN hlen (by omega)
 refine gEn env Tryz.func90 fun Γ hN hK hML=>?_
 cases rows with
 | nil =>
  refine gA ?_
  (refine gE env hN (by kernel_rfl) ?_;conv=>whnf)
  refine W.nilSplit (full:=false) 0 (by rfl) ?_ ?_
  ·(refine gGr ?_;intros)
   exact ret0 rfl rfl rfl
  ·(refine gGl ?_;intros)
   refine Or.inl ?_
   conv=>whnf
   (refine gGo ?_;intros)
   refine ⟨⟨trivial,rfl⟩,⟨by decide,by decide⟩,.inl ⟨rfl,rfl,?_⟩⟩
   conv=>whnf
   (refine gGo ?_;intros)
   refine W.leG (mp:=[]) (bo:=[5]) (st':=⟨[(2,.sl [] false)],[],[]⟩) (LeG.mk' rfl rfl rfl ⟨⟨_,Lent.whole rfl rfl rfl rfl (.inl rfl),rfl⟩,trivial⟩ .nil rfl rfl (by rw [hK];rfl)) ?_
   (refine gM ?_;conv=>whnf)
   exact ret0 rfl rfl rfl
 | cons r rs =>
  (refine gGl ?_;intros)
  refine Or.inl ?_
  conv=>whnf
  (refine gGo ?_;intros)
  refine ⟨⟨hz,rfl⟩,by simpa using hfit,.inl ⟨rfl,rfl,?_⟩⟩
  simp only [Nat.zero_add,List.nil_append]
  conv=>whnf
  (refine gGo ?_;intros)
  refine W.leG (mp:=[]) (bo:=[5]) (st':=⟨[(2,.sl (r::rs) false)],[],[]⟩) (LeG.mk' rfl rfl rfl ⟨⟨_,Lent.whole rfl rfl rfl rfl (.inl rfl),rfl⟩,trivial⟩ .nil rfl rfl (by rw [hK];rfl)) ?_
  (refine gM ?_;conv=>whnf)
  exact ret0 rfl rfl rfl
theorem intRows_sz (l:List Int):rowsSz (intRows .i64 l) 1:=by
 unfold rowsSz intRows
 intro r hr
 obtain ⟨c,_,rfl⟩:=List.mem_map.1 hr
 rfl
theorem Nod.row_done {n:Nod}{d:List Int×List (Str×Int)}(h:n.done=some d):n.row=n.rowW (.sl (natRows n.kids) false) (.sl (intRows .i64 d.1) false) (.dmap (mkD (sumE d.2))):=by
 unfold Nod.row Nod.cv Nod.sv;rw [h]
theorem each_spec (R:List Nod) (N:Nat) (hN:N=R.length) (h0:0<R.length) (hf:R.length≤100) {d:List Int×List (Str×Int)}(hd:R[0].done=some d) (hl:d.1.length≤4096):Spec Tryz.prog 62 [.bp 0 0] (nodH N R) (.sl (intRows .i64 d.1) false) (nodH N R):=by
 have sp:=cloneInts (intRows .i64 d.1) (intRows_sz d.1) (by rw [intRows_len];omega)
 have hRl:=nodRows_len R
 have hx:=nodRows_get h0
 rw [Nod.row_done hd] at hx
 rw [show nodH N R=[(0,.rows 1 [[.osl 1 0 0 (nodRows R).length (nodRows R).length]] none),(1,.rows 9 (nodRows R) (some []))] from by rw [hRl,←hN];rfl]
 refine gEn env Tryz.func62 fun Γ hN hK hML=>?_
 (refine gGo ?_;intros)
 refine rowAt_of (by simpa using hx) ?_
 conv=>whnf
 (refine gGo ?_;intros)
 (refine gPC (sp) ?_;conv=>whnf)
 (refine gGr ?_;intros)
 exact retH rfl (.refl _) rfl rfl rfl ⟨rfl,rfl,rfl,rfl,trivial⟩
def cntStep (T:List (Str×Int)) (c:Cell):List (Str×Int):=if c.null=true then T else addT T c.text 1
def cntC (cs:List Cell):List (Str×Int):=cs.foldl cntStep []
theorem cntC_snoc {cs:List Cell}{j:Nat}(h:j<cs.length):cntC (cs.take (j+1))=cntStep (cntC (cs.take j)) cs[j]:=by
 unfold cntC
 rw [List.take_succ_eq_append_getElem h,List.foldl_append];rfl
theorem cnt_bound:∀ (cs:List Cell) (T:List (Str×Int)) (m:Int),(∀ s,0≤lookT T s∧lookT T s≤m)→∀ s,0≤lookT (cs.foldl cntStep T) s∧lookT (cs.foldl cntStep T) s≤m+cs.length
 | [],T,m,h,s=>by have:=h s;simp;omega
 | c::cs,T,m,h,s=>by
  have:=cnt_bound cs (cntStep T c) (m+1) (fun u=>by
   unfold cntStep
   have:=h u
   split
   ·omega
   ·rw [lookT_add]
    split
    ·have h2:=h c.text;omega
    ·omega) s
  simp only [List.foldl_cons,List.length_cons]
  omega
theorem cntC_bound (cs:List Cell) (s:Str):0≤lookT (cntC cs) s∧lookT (cntC cs) s≤cs.length:=by
 have:=cnt_bound cs [] 0 (fun s=>by simp [lookT,keysT,ixS]) s
 unfold cntC;omega
structure Seen (n:Nat) (seen:List Nat):Prop where
 nd:seen.Nodup
 lt:∀ i∈seen,i<n
theorem Seen.nil (n:Nat):Seen n []:=⟨List.nodup_nil,fun i h=>by cases h⟩
theorem Seen.snoc {n:Nat}{seen:List Nat}(h:Seen n seen) {j:Nat}(hj:j<n) (hn:j∉seen):Seen n (seen++[j]):=by
 refine ⟨List.nodup_append.2 ⟨h.nd,by simp,fun a ha b hb=>?_⟩,fun i hi=>?_⟩
 ·simp at hb;subst hb;exact fun e=>hn (e ▸ ha)
 ·rcases List.mem_append.1 hi with h1 | h1
  ·exact h.lt i h1
  ·simp at h1;omega
theorem Seen.len {n:Nat}{seen:List Nat}(h:Seen n seen):seen.length≤n:=by
 have h1:seen ⊆ List.range n:=fun i hi=>List.mem_range.2 (h.lt i hi)
 have:=h.nd.length_le_of_subset h1
 simpa using this
theorem Seen.perm {n:Nat}{seen:List Nat}(h:Seen n seen) (hall:∀ i,i<n→i∈seen):seen.Perm (List.range n):=by
 rw [List.perm_iff_count]
 intro a
 rw [h.nd.count,List.nodup_range.count]
 by_cases e:a<n
 ·rw [if_pos (hall a e),if_pos (List.mem_range.2 e)]
 ·rw [if_neg (fun h1=>e (h.lt a h1)),if_neg (fun h1=>e (List.mem_range.1 h1))]
def valI (T:List (Str×Int)) (j:Nat):Int:=(T.getD j ([],0)).2
theorem sumE_at {T:List (Str×Int)}{j:Nat}(h:j<T.length):(sumE T)[j]?=some (j,.str T[j].1,.int .i64 T[j].2):=by
 unfold sumE
 rw [tabE_get]
 simp [valT,h]
theorem sumE_get {T:List (Str×Int)}{j b:Nat}{kk v:V}(h:(sumE T)[j]?=some (b,kk,v)):∃ h:j<T.length,b=j∧kk=.str T[j].1∧v=.int .i64 T[j].2:=by
 have hj:j<T.length:=by
  have:=(List.getElem?_eq_some_iff.1 h).1
  rwa [sumE_len] at this
 rw [sumE_at hj] at h
 cases h
 exact ⟨hj,rfl,rfl,rfl⟩
theorem lookT_mem {T:List (Str×Int)}{m:Int}(hm:0≤m) (h:∀ p∈T,0≤p.2∧p.2≤m) (s:Str):0≤lookT T s∧lookT T s≤m:=by
 unfold lookT
 cases hx:ixS s (keysT T) with
 | none=>exact ⟨Int.le_refl _,hm⟩
 | some j =>
  have hj:=ixS_lt hx
  simp only [List.getD_eq_getElem?_getD,List.getElem?_eq_getElem hj,Option.getD_some]
  exact h _ (List.getElem_mem hj)
theorem addT_mem {T:List (Str×Int)}{s:Str}{n:Int}{p:Str×Int}(h:p∈addT T s n):p∈T∨p=(s,lookT T s+n):=by
 unfold addT at h
 split at h
 ·exact (List.mem_or_eq_of_mem_set h)
 ·rcases List.mem_append.1 h with h | h
  ·exact .inl h
  ·exact .inr (by simpa using h)
theorem addT_len (T:List (Str×Int)) (s:Str) (n:Int):(addT T s n).length≤T.length+1:=by
 unfold addT
 split<;>simp
theorem cnt_mems:∀ (cs:List Cell) (T:List (Str×Int)) (m:Int),0≤m→(∀ p∈T,0≤p.2∧p.2≤m)→(∀ p∈cs.foldl cntStep T,0≤p.2∧p.2≤m+cs.length)∧(cs.foldl cntStep T).length≤T.length+cs.length
 | [],T,m,hm,h=>⟨fun p hp=>by have:=h p hp;simp;omega,by simp⟩
 | c::cs,T,m,hm,h=>by
  have hl:=lookT_mem hm h
  have:=cnt_mems cs (cntStep T c) (m+1) (by omega) (fun p hp=>by
   unfold cntStep at hp
   split at hp
   ·have:=h p hp;omega
   ·rcases addT_mem hp with h1 | h1
    ·have:=h p h1;omega
    ·have:=hl c.text
     rw [h1];simp only;omega)
  have h2:(cntStep T c).length≤T.length+1:=by
   unfold cntStep
   split
   ·omega
   ·exact addT_len _ _ _
  simp only [List.foldl_cons,List.length_cons]
  refine ⟨fun p hp=>?_,by omega⟩
  have:=this.1 p hp
  omega
theorem cntC_mems (cs:List Cell):(∀ p∈cntC cs,0≤p.2∧p.2≤cs.length)∧(cntC cs).length≤cs.length:=by
 have:=cnt_mems cs [] 0 (by decide) (fun p hp=>by cases hp)
 simpa [cntC] using this
def relZ:List Int:=[0,0,0,0,0,0,0,0,0,0,0]
def intsV (l:List Int):List V:=l.map fun n=>.int .i64 n
theorem run_stable (R:List Nod) (N q:Nat):∀ (k d:Nat),N-k≤q→k+d≤N→(runD R N (k+d))[q]?=(runD R N k)[q]?
 | k,0,_,_=>rfl
 | k,d+1,hq,hd=>by
  rw [←Nat.add_assoc]
  simp only [runD]
  unfold stepD
  split
  ·rw [List.getElem?_set_ne (by omega)]
   exact run_stable R N q k d hq (by omega)
  ·exact run_stable R N q k d hq (by omega)
theorem planN_len (l:List Table) (p:Pth):(planN l p).length=p.steps.length+1:=by
 unfold planN;rw [runD_len,nodesN_len l p _ (Nat.le_refl _)]
theorem kidsOf_congr {R R':List Nod}{n:Nod}(h:∀ k∈n.kids,R[k]?=R'[k]?):kidsOf R n=kidsOf R' n:=by
 unfold kidsOf
 refine List.map_congr_left fun k hk=>?_
 rw [List.getD_eq_getElem?_getD,List.getD_eq_getElem?_getD,h k hk]
theorem plan_fix (l:List Table) (p:Pth) {i:Nat}(hi:i≤p.steps.length):(planN l p)[i]?=some (doneR (planN l p) i (nodeAt l p p.steps.length i)):=by
 have hlen:=nodesN_len l p p.steps.length (Nat.le_refl _)
 obtain ⟨k,hk⟩:∃ k,k+i=p.steps.length:=⟨p.steps.length-i,by omega⟩
 have hnx:(runD (nodesN l p p.steps.length) (p.steps.length+1) k)[i]?=some (nodeAt l p p.steps.length i):=by
  obtain ⟨d,h1,_,h3⟩:=runD_shape hlen k (by omega) i _ (nodesN_get l p (Nat.le_refl _) hi)
  rw [h1,h3 (by omega)]
 have hst:∀ q,i≤q→(planN l p)[q]?=(runD (nodesN l p p.steps.length) (p.steps.length+1) (k+1))[q]?:=fun q hq=>by
  unfold planN
  have:=run_stable (nodesN l p p.steps.length) (p.steps.length+1) q (k+1) i (by omega) (by omega)
  rw [show k+1+i=p.steps.length+1 by omega] at this
  exact this
 have hst2:∀ q,i<q→(planN l p)[q]?=(runD (nodesN l p p.steps.length) (p.steps.length+1) k)[q]?:=fun q hq=>by
  rw [hst q (by omega)]
  exact run_stable (nodesN l p p.steps.length) (p.steps.length+1) q k 1 (by omega) (by omega)
 rw [hst i (Nat.le_refl _)]
 simp only [runD]
 unfold stepD
 rw [show p.steps.length+1-1-k=i by omega,hnx]
 simp only
 rw [List.getElem?_set_self (List.getElem?_eq_some_iff.1 hnx).1]
 congr 1
 have hko:kidsOf (runD (nodesN l p p.steps.length) (p.steps.length+1) k) (nodeAt l p p.steps.length i)=kidsOf (planN l p) (nodeAt l p p.steps.length i):=by
  refine kidsOf_congr fun q hq=>?_
  rw [nodeAt_kids] at hq
  obtain ⟨q',g1,g2,rfl⟩:=kidsL_mem.1 hq
  have:=parI_le p (i:=q') (by omega)
  exact (hst2 _ (by omega)).symm
 unfold doneR
 rw [hko]
def cntsN (l:List Table) (p:Pth) (i:Nat):List Int:=(List.range (rowsN (nodeAt l p p.steps.length i).t)).map (cntR (kidsOf (planN l p) (nodeAt l p p.steps.length i)) (nodeAt l p p.steps.length i).t)
def talsN (l:List Table) (p:Pth) (i:Nat):List (Str×Int):=if i=0 then [] else talR (nodeAt l p p.steps.length i).t (nodeAt l p p.steps.length i).own (cntR (kidsOf (planN l p) (nodeAt l p p.steps.length i)) (nodeAt l p p.steps.length i).t) (rowsN (nodeAt l p p.steps.length i).t)
theorem plan_get (l:List Table) (p:Pth) {i:Nat}(hi:i≤p.steps.length):(planN l p)[i]?=some { nodeAt l p p.steps.length i with done:=some (cntsN l p i,talsN l p i) }:=plan_fix l p hi
theorem cntsN_len (l:List Table) (p:Pth) (i:Nat):(cntsN l p i).length=rowsN (nodeAt l p p.steps.length i).t:=by simp [cntsN]
def eachE (l:List Table) (p:Pth):List Int×Int:=if validE l p=0 then (cntsN l p 0,0) else ([],validE l p)
def mostB (r:List Int):Int:=r.getD 8 0
structure Rep where
 rows:Int
 lost:Int
 most:Int
 unused:List Int
 deriving DecidableEq
def Rep.row (r:Rep):List V:=[.int .i64 r.rows,.int .i64 r.lost,.int .i64 r.most,.sl (intRows .i64 r.unused) false]
set_option maxHeartbeats 4000000 in
theorem same_spec (a b:Rep):Spec Tryz.prog 33 [.agg a.row,.agg b.row] [] (.bool (decide (a=b))) []:=by
 have hex:a.rows=b.rows→a.lost=b.lost→a.most=b.most→a.unused=b.unused→a=b:=fun h1 h2 h3 h4=>by cases a;cases b;simp_all
 have hla:=intRows_len .i64 a.unused
 have hlb:=intRows_len .i64 b.unused
 refine gEn env Tryz.func33 fun Γ hN hK hML=>?_
 by_cases e1:a.rows=b.rows
 ·by_cases e2:a.lost=b.lost
  ·by_cases e3:a.most=b.most
   ·by_cases e4:a.unused.length=b.unused.length
    ·(refine gGo ?_;intros)
     refine W.loopG (fun n st=>∃ k:Nat,k≤a.unused.length∧a.unused.take k=b.unused.take k∧n=a.unused.length-k∧st=⟨[(3,.bp 3 0),(36,.sl (intRows .i64 a.unused) false),(37,.int .i64 (intRows .i64 a.unused).length),(38,.int .i64 k)],[(3,[.rows 4 [b.row] none])],[3]⟩)
      a.unused.length _ ⟨0,by omega,rfl,by omega,rfl⟩ ⟨[(3,3)],[],[],.mq (.ci 3 .nil)⟩ ?_
     rintro n st ⟨k,hk,htk,rfl,rfl⟩
     (refine gGo ?_;intros)
     refine boolRes_split (fun hb=>?_) (fun hb=>?_)<;>conv=>whnf
     ·have hlt:k<a.unused.length:=by omega
      have hlt2:k<b.unused.length:=by omega
      have hg1:=intRows_get (k:=.i64) hlt
      have hg2:=intRows_get (k:=.i64) hlt2
      by_cases e5:a.unused[k]=b.unused[k]
      ·(refine gGo ?_;intros)
       refine rowAt_of (by simpa using hg1) ?_
       conv=>whnf
       (refine gGo ?_;intros)
       refine rowAt_of (by simpa using hg2) ?_
       conv=>whnf
       (refine gGo ?_;intros)
       refine ⟨_,_,?_,⟨k+1,by omega,by rw [List.take_succ_eq_append_getElem hlt,List.take_succ_eq_append_getElem hlt2,htk,e5],rfl,rfl⟩,⟨[(3,3)],[],[],.mq (.ci 3 .nil)⟩⟩
       omega
      ·have hne:¬ (a=b):=fun h=>by subst h;exact e5 rfl
       rw [decide_eq_false hne]
       (refine gGo ?_;intros)
       refine rowAt_of (by simpa using hg1) ?_
       conv=>whnf
       (refine gGo ?_;intros)
       refine rowAt_of (by simpa using hg2) ?_
       conv=>whnf
       (refine gGo ?_;intros)
       (refine gM ?_;conv=>whnf)
       exact retH rfl (.norm _) rfl rfl rfl trivial
     ·have hke:k=a.unused.length:=by omega
      have huu:a.unused=b.unused:=by
       rw [hke,List.take_length,e4,List.take_length] at htk;exact htk
      rw [decide_eq_true (hex e1 e2 e3 huu)]
      (refine gGo ?_;intros)
      (refine gM ?_;conv=>whnf)
      exact retH rfl (.norm _) rfl rfl rfl trivial
    ·rw [decide_eq_false (fun h=>e4 (by rw [h]))]
     (refine gGo ?_;intros)
     (refine gM ?_;conv=>whnf)
     exact retH rfl (.norm _) rfl rfl rfl trivial
   ·rw [decide_eq_false (fun h=>e3 (by rw [h]))]
    (refine gGo ?_;intros)
    (refine gM ?_;conv=>whnf)
    exact retH rfl (.norm _) rfl rfl rfl trivial
  ·rw [decide_eq_false (fun h=>e2 (by rw [h]))]
   (refine gGo ?_;intros)
   (refine gM ?_;conv=>whnf)
   exact retH rfl (.norm _) rfl rfl rfl trivial
 ·rw [decide_eq_false (fun h=>e1 (by rw [h]))]
  (refine gGo ?_;intros)
  (refine gM ?_;conv=>whnf)
  exact retH rfl (.norm _) rfl rfl rfl trivial
def addS (l:List Str) (s:Str):List Str:=match ixS s l with | some _=>l | none=>l++[s]
def setE (l:List Str):List (Nat×V×V):=tabE 0 (l.map fun s=>(s,V.bool true))
def setB (l:List Str):Blk:=.map (setE l) l.length (some [])
theorem addS_mem {l:List Str}{s u:Str}:u∈addS l s↔u∈l∨u=s:=by
 unfold addS
 cases h:ixS s l with
 | none=>simp
 | some j =>
  have:=List.mem_of_getElem? (ixS_some h)
  simp only
  exact ⟨.inl,fun h=>h.elim id (fun e=>e ▸ this)⟩
theorem setK (l:List Str):keysT (l.map fun s=>(s,V.bool true))=l:=by
 unfold keysT
 rw [List.map_map]
 exact List.map_id l
theorem setE_look (l:List Str) (s:Str):∃ r,mapAt (.str s) (setE l)=some r∧lookAt (setE l) (.bool false) false r=.bool (decide (s∈l)):=by
 refine ⟨_,tabE_at s _ 0,?_⟩
 rw [setK]
 cases h:ixS s l with
 | none =>
  rw [decide_eq_false (ixS_none.1 h)];rfl
 | some j =>
  have hm:=List.mem_of_getElem? (ixS_some h)
  have hj:=(List.getElem?_eq_some_iff.1 (ixS_some h)).1
  rw [decide_eq_true hm]
  simp [lookAt,hj]
  rfl
theorem setE_add (l:List Str) (s:Str):∃ r,mapAt (.str s) (setE l)=some r ∧
  (match r with
   | some (j,b,_)=>(setE l).set j (b,.str s,.bool true)=setE (addS l s)∧(addS l s).length=l.length
   | none=>setE l++[(l.length,.str s,.bool true)]=setE (addS l s)∧(addS l s).length=l.length+1):=by
 refine ⟨_,tabE_at s _ 0,?_⟩
 rw [setK]
 unfold addS
 cases h:ixS s l with
 | none =>
  simp only [Option.map_none]
  refine ⟨?_,by simp⟩
  have:=tabE_snoc s (.bool true) (l.map fun s=>(s,V.bool true)) 0
  simp only [Nat.zero_add,List.length_map] at this
  unfold setE
  rw [←this]
  simp
 | some j =>
  simp only [Option.map_some]
  refine ⟨?_,trivial⟩
  have h1:=tabE_set s (.bool true) (l.map fun s=>(s,V.bool true)) 0 j
  unfold setE
  rw [h1]
  congr 1
  have hj:=ixS_some h
  refine List.ext_getElem? fun i=>?_
  rw [List.getElem?_set]
  by_cases e:j=i
  ·subst e
   have hlt:=(List.getElem?_eq_some_iff.1 hj).1
   simp [hlt]
   have:=(List.getElem?_eq_some_iff.1 hj).2
   exact this.symm
  ·simp [e]
def hasU (U:Nat→Option (List Str)) (k:Nat) (s:Str):Bool:=match U k with | some l=>decide (s∈l) | none=>false
def insU (U:Nat→Option (List Str)) (k:Nat) (s:Str):Nat→Option (List Str):=fun j=>if j=k then some (addS ((U k).getD []) s) else U j
def slotV (F:Nat):Option Nat→List V
 | none=>[.nilm]
 | some q=>[.omap F q]
structure UOK (N:Nat) (sl:List (Option Nat)) (fam:List (List Str)) (U:Nat→Option (List Str)):Prop where
 len:sl.length=N
 get:∀ (k q:Nat),sl[k]?=some (some q)→∃ l,fam[q]?=some l∧U k=some l
 non:∀ k,sl[k]?=some none→U k=none
 inj:∀ (k k' q:Nat),sl[k]?=some (some q)→sl[k']?=some (some q)→k=k'
theorem UOK.init (N:Nat):UOK N (List.replicate N none) [] (fun _=>none):=by
 refine ⟨by simp,fun k q h=>?_,fun k h=>rfl,fun k k' q h=>?_⟩<;>simp [List.getElem?_replicate] at h
theorem UOK.add {N:Nat}{sl:List (Option Nat)}{fam:List (List Str)}{U:Nat→Option (List Str)}(h:UOK N sl fam U) {k:Nat}(hk:sl[k]?=some none):UOK N (sl.set k (some fam.length)) (fam++[[]]) (fun j=>if j=k then some [] else U j):=by
 have hlt:=(List.getElem?_eq_some_iff.1 hk).1
 refine ⟨by simp [h.len],fun j q hj=>?_,fun j hj=>?_,fun j j' q hj hj'=>?_⟩
 ·rw [List.getElem?_set] at hj
  by_cases e:k=j
  ·subst e
   rw [if_pos rfl,if_pos hlt] at hj
   cases hj
   exact ⟨[],by simp,by simp⟩
  ·rw [if_neg e] at hj
   obtain ⟨l,h1,h2⟩:=h.get j q hj
   have:=(List.getElem?_eq_some_iff.1 h1).1
   exact ⟨l,by rw [List.getElem?_append_left this,h1],by rw [if_neg (Ne.symm e),h2]⟩
 ·rw [List.getElem?_set] at hj
  by_cases e:k=j
  ·subst e
   rw [if_pos rfl,if_pos hlt] at hj
   cases hj
  ·rw [if_neg e] at hj
   simp only [if_neg (Ne.symm e)]
   exact h.non j hj
 ·rw [List.getElem?_set] at hj hj'
  by_cases e:k=j<;>by_cases e':k=j'
  ·omega
  ·subst e
   rw [if_pos rfl,if_pos hlt] at hj
   rw [if_neg e'] at hj'
   cases hj
   obtain ⟨l,h1,_⟩:=h.get _ _ hj'
   have:=(List.getElem?_eq_some_iff.1 h1).1
   omega
  ·subst e'
   rw [if_pos rfl,if_pos hlt] at hj'
   rw [if_neg e] at hj
   cases hj'
   obtain ⟨l,h1,_⟩:=h.get _ _ hj
   have:=(List.getElem?_eq_some_iff.1 h1).1
   omega
  ·rw [if_neg e] at hj
   rw [if_neg e'] at hj'
   exact h.inj j j' q hj hj'
theorem UOK.ins {N:Nat}{sl:List (Option Nat)}{fam:List (List Str)}{U:Nat→Option (List Str)}(h:UOK N sl fam U) {k q:Nat}{l:List Str}(hk:sl[k]?=some (some q)) (hq:fam[q]?=some l) (s:Str):UOK N sl (fam.set q (addS l s)) (insU U k s):=by
 obtain ⟨l',h1,h2⟩:=h.get k q hk
 rw [hq] at h1
 cases h1
 have hlt:=(List.getElem?_eq_some_iff.1 hq).1
 refine ⟨h.len,fun j q' hj=>?_,fun j hj=>?_,h.inj⟩
 ·by_cases e:j=k
  ·subst e
   rw [hk] at hj
   cases hj
   exact ⟨_,List.getElem?_set_self hlt,by simp [insU,h2]⟩
  ·obtain ⟨l',g1,g2⟩:=h.get j q' hj
   have hne:q≠q':=fun e'=>e (h.inj j k q' hj (e' ▸ hk))
   exact ⟨l',by rw [List.getElem?_set_ne hne,g1],by simp [insU,e,g2]⟩
 ·have e:j≠k:=fun e=>by subst e;rw [hk] at hj;cases hj
  simp only [insU,if_neg e]
  exact h.non j hj
theorem insU_add (U:Nat→Option (List Str)) (k:Nat) (s:Str) (h:U k=none):insU (fun j=>if j=k then some [] else U j) k s=insU U k s:=by
 funext j
 unfold insU
 by_cases e:j=k
 ·simp [e,h]
 ·simp [e]
def skipR (U:Nat→Option (List Str)) (i:Nat) (n:Nod) (c:List Int) (r:Nat):Bool:=decide (c.getD r 0=0)||(decide (0<i)&&((cellT n.t n.own r).null||!hasU U i (cellT n.t n.own r).text))
def kidsU (R:List Nod) (n:Nod) (r:Nat) (U:Nat→Option (List Str)) (j:Nat):Nat→Option (List Str):=(n.kids.take j).foldl (fun U k=>insU U k (cellT n.t (R.getD k n).fr r).text) U
structure US where
 unused:Int
 U:Nat→Option (List Str)
def rowU (R:List Nod) (i:Nat) (n:Nod) (c:List Int) (S:US) (r:Nat):US:=if skipR S.U i n c r=true then ⟨S.unused+1,S.U⟩ else ⟨S.unused,kidsU R n r S.U n.kids.length⟩
def rowsU (R:List Nod) (i:Nat) (n:Nod) (c:List Int) (U:Nat→Option (List Str)) (r:Nat):US:=(List.range r).foldl (rowU R i n c) ⟨0,U⟩
def cntD (n:Nod):List Int:=match n.done with | some d=>d.1 | none=>[]
def nodesU (R:List Nod):Nat→List Int×(Nat→Option (List Str))
 | 0=>([],fun _=>none)
 | i+1=>match R[i]? with
  | some n=>let S:=rowsU R i n (cntD n) (nodesU R i).2 (cntD n).length
   (if 0<i then (nodesU R i).1++[S.unused] else (nodesU R i).1,S.U)
  | none=>nodesU R i
theorem rowsU_snoc (R:List Nod) (i:Nat) (n:Nod) (c:List Int) (U:Nat→Option (List Str)) (r:Nat):rowsU R i n c U (r+1)=rowU R i n c (rowsU R i n c U r) r:=by
 unfold rowsU
 rw [List.range_succ,List.foldl_append];rfl
theorem kidsU_snoc (R:List Nod) (n:Nod) (r:Nat) (U:Nat→Option (List Str)) {j:Nat}(h:j<n.kids.length):kidsU R n r U (j+1)=insU (kidsU R n r U j) n.kids[j] (cellT n.t (R.getD n.kids[j] n).fr r).text:=by
 unfold kidsU
 rw [List.take_succ_eq_append_getElem h,List.foldl_append];rfl
theorem rowsU_bound (R:List Nod) (i:Nat) (n:Nod) (c:List Int) (U:Nat→Option (List Str)):∀ r,0≤(rowsU R i n c U r).unused∧(rowsU R i n c U r).unused≤r
 | 0=>by simp [rowsU]
 | r+1=>by
  have ih:=rowsU_bound R i n c U r
  rw [rowsU_snoc]
  unfold rowU
  split<;>simp only<;>omega
theorem nodesU_len (R:List Nod):∀ i,i≤R.length→(nodesU R i).1.length=i-1
 | 0,_=>rfl
 | i+1,h=>by
  have ih:=nodesU_len R i (by omega)
  simp only [nodesU,List.getElem?_eq_getElem (show i<R.length by omega)]
  by_cases e:0<i
  ·rw [if_pos e];simp;omega
  ·rw [if_neg e];omega
structure NodOK (R:List Nod) (i:Nat) (n:Nod) (d:List Int×List (Str×Int)):Prop where
 get:R[i]?=some n
 done:n.done=some d
 len:d.1.length=rowsN n.t
 rows:rowsN n.t≤4096
 v:∀ c∈n.t.cols,c.cells.length=rowsN n.t
 kl:n.kids.length≤100
 kids:∀ k∈n.kids,∃ (h:k<R.length),R[k].fr<n.t.cols.length
 own:0<i→n.own<n.t.cols.length
theorem blkAt_of {l:List Blk}{i:Nat}{b:Blk}{p:Blk→Prop}(h:l[i]?=some b) (hp:p b):blkAt l i p:=by
 unfold blkAt
 split
 ·cases h;exact hp
 ·exact ⟨b,h,hp⟩
theorem one_gat {d F n sz:Nat}{r:List V}(h:gatL d F n r=r):BGat d F n (.rows sz [r] none) (.rows sz [r] none):=by
 refine .rows sz _ _ none none rfl fun i r1 hi=>?_
 cases i with
 | succ i=>simp at hi
 | zero=>cases hi;exact ⟨r,rfl,h.symm,fun l hl=>by cases hl⟩
theorem slots_gat {sl:List (Option Nat)}{n k i0:Nat}{r0:List V}{ks:Option (List Nat)}(hi:i0=k) (hr:r0=[.omap 84 0]) (hk:k<sl.length) (hq:∀ (j q:Nat),sl[j]?=some (some q)→q<n) :
  BGat 84 200 n (.rows 1 ((sl.map (slotV 200)).set i0 r0) ks) (.rows 1 ((sl.set k (some n)).map (slotV 200)) (some [200])):=by
 subst hi
 subst hr
 refine .rows 1 _ _ _ _ (by simp) fun j r1 hj=>?_
 rw [List.getElem?_map,List.getElem?_set] at hj
 rw [List.getElem?_set,List.length_map]
 by_cases e:i0=j
 ·subst e
  rw [if_pos rfl,if_pos hk] at hj ⊢
  cases hj
  exact ⟨_,rfl,rfl,fun l hl v hv s hs=>by cases hl;simp [slotV] at hv;subst hv;simpa [V.sites] using hs⟩
 ·rw [if_neg e] at hj ⊢
  rw [List.getElem?_map]
  cases hx:sl[j]? with
  | none=>rw [hx] at hj;cases hj
  | some x =>
   rw [hx] at hj
   cases hj
   refine ⟨_,rfl,?_,fun l hl v hv s hs=>?_⟩
   ·cases x with
    | none=>rfl
    | some q =>
     have:=hq j q hx
     simp [slotV,gatL,V.gat,this]
   ·cases hl
    cases x with
    | none=>simp [slotV] at hv;subst hv;cases hs
    | some q=>simp [slotV] at hv;subst hv;simpa [V.sites] using hs
theorem famSplit {fam:List (List Str)}{q:Nat}{l:List Str}(h:fam[q]?=some l):(fam=[l]∧q=0)∨∃ y z f,fam=y::z::f:=by
 match fam,h with
 | [],h=>simp at h
 | [y],h =>
  cases q with
  | zero=>cases h;exact .inl ⟨rfl,rfl⟩
  | succ q=>simp at h
 | y::z::f,_=>exact .inr ⟨y,z,f,rfl⟩
set_option maxHeartbeats 8000000 in
theorem unused_spec (R:List Nod) (N:Nat) (hNR:N=R.length) (hf:R.length≤100) (hall:∀ i,i<R.length→∃ n d,NodOK R i n d) :
  Spec Tryz.prog 61 [.bp 0 0] (nodH N R) (.sl (intRows .i64 (nodesU R N).1) false) (nodH N R):=by
 have hRl:=nodRows_len R
 rw [show nodH N R=[(0,.rows 1 [[.osl 1 0 0 (nodRows R).length (nodRows R).length]] none),(1,.rows 9 (nodRows R) (some []))] from by rw [hRl,←hNR];rfl]
 refine gEn env Tryz.func61 fun Γ hN hK hML=>?_
 (refine gGo ?_;intros)
 refine And.intro ⟨by omega,by omega,show ((nodRows R).length:Int)*8≤140737488355328 by omega,by omega⟩ ?_
 rw [Int.toNat_natCast]
 conv=>whnf
 (refine gGo ?_;intros)
 refine W.ownNil 3 111 1 rfl rfl ?_
 refine W.leG (mp:=[(0,0),(1,1),(17,17),(200,200),(111,111)]) (bo:=[]) (st':=⟨[(0,.bp 0 0),(3,.osl 111 0 0 0 0),(4,.osl 17 0 0 (nodRows R).length (nodRows R).length),(21,.osl 1 0 0 (nodRows R).length (nodRows R).length),(22,.int .i64 (nodRows R).length),(23,.int .i64 0)],[(0,[.rows 1 [[.osl 1 0 0 (nodRows R).length (nodRows R).length]] none]),(1,[.rows 9 (nodRows R) (some [])]),(17,[.rows 1 (List.replicate (nodRows R).length [.nilm]) (some [])]),(200,[]),(111,[.rows 1 [] (some [])])],[0,1,17,200,111]⟩)
  (LeG.mq (.ci 0 (.ci 1 (.ci 17 (.fam 200 rfl rfl (fun b hb=>by cases hb) (.ci 111 .nil)))))) ?_
 refine W.ref (Ref.reks 17 (rows1:=(List.replicate R.length none).map (slotV 200)) [200] rfl (by rw [List.map_replicate,hRl];rfl) (fun i r q v hi hq=>?_) (fun q hq=>by simp at hq;subst hq;rfl)) ?_
 ·rw [List.map_replicate,List.getElem?_replicate] at hi
  split at hi
  ·cases hi
   cases q with
   | zero=>cases hq;intro s hs;cases hs
   | succ q=>simp [slotV] at hq
  ·cases hi
 refine W.loopG (fun m st=>∃ (i:Nat) (sl:List (Option Nat)) (fam:List (List Str)),i≤R.length∧UOK R.length sl fam (nodesU R i).2∧m=R.length-i∧st=⟨[(0,.bp 0 0),(3,.osl 111 0 0 (nodesU R i).1.length (nodesU R i).1.length),(4,.osl 17 0 0 (nodRows R).length (nodRows R).length),(21,.osl 1 0 0 (nodRows R).length (nodRows R).length),(22,.int .i64 (nodRows R).length),(23,.int .i64 i)],[(0,[.rows 1 [[.osl 1 0 0 (nodRows R).length (nodRows R).length]] none]),(1,[.rows 9 (nodRows R) (some [])]),(17,[.rows 1 (sl.map (slotV 200)) (some [200])]),(200,fam.map setB),(111,[.rows 1 (intRows .i64 (nodesU R i).1) (some [])])],[0,1,17,200,111]⟩)
  R.length _ ⟨0,List.replicate R.length none,[],by omega,UOK.init _,by omega,rfl⟩ ⟨[(0,0),(1,1),(17,17),(200,200),(111,111)],[],[],LeG.mq (.ci 0 (.ci 1 (.ci 17 (.fam 200 rfl rfl (fun b hb=>by cases hb) (.ci 111 .nil)))))⟩ ?_
 rintro m st ⟨i,sl,fam,hi,hU,rfl,rfl⟩
 have hOl:=nodesU_len R i hi
 (refine gGo ?_;intros)
 refine boolRes_split (fun hb=>?_) (fun hb=>?_)<;>conv=>whnf
 ·have hlt:i<R.length:=by omega
  obtain ⟨n,d,ok⟩:=hall i hlt
  have hstep:nodesU R (i+1)=(if 0<i then (nodesU R i).1++[(rowsU R i n d.1 (nodesU R i).2 d.1.length).unused] else (nodesU R i).1,(rowsU R i n d.1 (nodesU R i).2 d.1.length).U):=by
   simp only [nodesU,ok.get];unfold cntD;rw [ok.done]
  generalize (nodesU R i).1=O at *
  generalize (nodesU R i).2=U at *
  obtain ⟨d1,d2⟩:=d
  have hx:(nodRows R)[i]?=some (n.rowW (.sl (natRows n.kids) false) (.sl (intRows .i64 d1) false) (.dmap (mkD (sumE d2)))):=by
   have:=nodRows_get hlt
   rw [(List.getElem?_eq_some_iff.1 ok.get).2,Nod.row_done ok.done] at this
   exact this
  have hdl:=ok.len
  have hrw:=ok.rows
  simp only at hdl hstep
  have hil:=intRows_len .i64 d1
  (refine gGo ?_;intros)
  refine rowAt_of (by simpa using hx) ?_
  conv=>whnf
  (refine gGo ?_;intros)
  refine W.loopG (fun m st=>∃ (r:Nat) (sl:List (Option Nat)) (fam:List (List Str)),r≤d1.length∧UOK R.length sl fam (rowsU R i n d1 U r).U∧m=d1.length-r∧st=⟨[(0,.bp 0 0),(3,.osl 111 0 0 O.length O.length),(4,.osl 17 0 0 (nodRows R).length (nodRows R).length),(5,.int .i64 i),(6,.bp 6 0),(7,.int .i64 (rowsU R i n d1 U r).unused),(21,.osl 1 0 0 (nodRows R).length (nodRows R).length),(22,.int .i64 (nodRows R).length),(23,.int .i64 i),(29,.sl (intRows .i64 d1) false),(30,.int .i64 (intRows .i64 d1).length),(31,.int .i64 r)],[(0,[.rows 1 [[.osl 1 0 0 (nodRows R).length (nodRows R).length]] none]),(1,[.rows 9 (nodRows R) (some [])]),(17,[.rows 1 (sl.map (slotV 200)) (some [200])]),(200,fam.map setB),(111,[.rows 1 (intRows .i64 O) (some [])]),(6,[.rows 9 [n.rowW (.sl (natRows n.kids) false) (.sl (intRows .i64 d1) false) (.dmap (mkD (sumE d2)))] none])],[0,1,17,200,111,6]⟩)
   d1.length _ ⟨0,sl,fam,by omega,hU,by omega,rfl⟩ ⟨[(0,0),(1,1),(17,17),(200,200),(111,111),(6,6)],[],[],LeG.mq (.ci 0 (.ci 1 (.ci 17 (.fam 200 rfl rfl (fun b hb=>by obtain ⟨x,_,rfl⟩:=List.mem_map.1 hb;rfl) (.ci 111 (.ci 6 .nil))))))⟩ ?_
  rintro m st ⟨r,sl,fam,hr,hU,rfl,rfl⟩
  have hsn:=rowsU_snoc R i n d1 U r
  have hub:=rowsU_bound R i n d1 U r
  unfold rowU at hsn
  generalize hS:rowsU R i n d1 U r=S at *
  have hsl:(sl.map (slotV 200)).length=(nodRows R).length:=by rw [List.length_map,hU.len,hRl]
  (refine gGo ?_;intros)
  refine boolRes_split (fun hb=>?_) (fun hb=>?_)<;>conv=>whnf
  ·have hrl:r<d1.length:=by omega
   have hcg:=intRows_get (k:=.i64) hrl
   have hgd:d1.getD r 0=d1[r]:=by simp [hrl]
   unfold skipR at hsn
   rw [hgd] at hsn
   generalize d1[r]=cnt at *
   (refine gGo ?_;intros)
   refine rowAt_of (by simpa using hcg) ?_
   conv=>whnf
   (refine gGo ?_;intros)
   by_cases c0:cnt=0
   ·rw [decide_eq_true c0,Bool.true_or,if_pos rfl] at hsn
    (refine gGo ?_;intros)
    refine ⟨_,_,?_,⟨r+1,sl,fam,by omega,by rw [hsn];exact hU,rfl,rfl⟩,[(0,0),(1,1),(17,17),(200,200),(111,111),(6,6)],[],[],LeG.mk' rfl rfl rfl (by rw [hsn];exact (by repeat' (first | exact trivial | exact ⟨_,.refl _,rfl⟩ | apply And.intro))) (.ci 0 (.ci 1 (.ci 17 (.fam 200 rfl rfl (fun b hb=>by obtain ⟨x,_,rfl⟩:=List.mem_map.1 hb;rfl) (.ci 111 (.ci 6 .nil)))))) rfl rfl (by rw [hK];rfl)⟩
    omega
   ·rw [decide_eq_false c0,Bool.false_or] at hsn
    by_cases i0:0<i
    ·rw [decide_eq_true i0,Bool.true_and] at hsn
     have hko:=ok.own i0
     have hcc:(n.t.cols[n.own]).cells.length=rowsN n.t:=ok.v _ (List.getElem_mem hko)
     have hcg2:=cellRows_get (l:=(n.t.cols[n.own]).cells) (i:=r) (by omega)
     have hct:(n.t.cols[n.own]).cells[r]'(by omega)=cellT n.t n.own r:=by simp [cellT,hko,hcc,hdl ▸ hrl]
     rw [hct] at hcg2
     clear hct
     have hcl:(cellRows (n.t.cols[n.own]).cells).length=rowsN n.t:=by rw [cellRows_len];exact hcc
     have hfl:=column_spec n.t n.own hko
     generalize (n.t.cols[n.own]).cells=cc at *
     generalize cellT n.t n.own r=c at *
     (refine gGo ?_;intros)
     (refine ⟨_,_,_,callG [] [] [] rfl rfl rfl (by kernel_rfl) (hfl) (by refine ⟨Lent.row ?_,Lent.refl _,trivial⟩;repeat' (first | exact trivial | exact ⟨Lent.refl _,rfl⟩ | exact ⟨Lent.dead _,rfl⟩ | apply And.intro)) rfl ⟨rfl,rfl,rfl,rfl,rfl,by repeat' (first | exact trivial | rfl | apply And.intro),rfl,rfl⟩,?_⟩;conv=>whnf)
     (refine gGo ?_;intros)
     refine rowAt_of (by simpa using hcg2) ?_
     conv=>whnf
     (refine gGo ?_;intros)
     cases hnull:c.null with
     | true =>
      rw [hnull,Bool.true_or,if_pos rfl] at hsn
      conv=>whnf
      (refine gGo ?_;intros)
      refine ⟨_,_,?_,⟨r+1,sl,fam,by omega,by rw [hsn];exact hU,rfl,rfl⟩,[(0,0),(1,1),(17,17),(200,200),(111,111),(6,6)],[],[],LeG.mk' rfl rfl rfl (by rw [hsn];exact (by repeat' (first | exact trivial | exact ⟨_,.refl _,rfl⟩ | apply And.intro))) (.ci 0 (.ci 1 (.ci 17 (.fam 200 rfl rfl (fun b hb=>by obtain ⟨x,_,rfl⟩:=List.mem_map.1 hb;rfl) (.ci 111 (.ci 6 .nil)))))) rfl rfl (by rw [hK];rfl)⟩
      omega
     | false =>
      rw [hnull,Bool.false_or] at hsn
      have hslt:i<sl.length:=by rw [hU.len];exact hlt
      have hsi:(sl.map (slotV 200))[i]?=some (slotV 200 sl[i]):=by simp [hslt]
      have hsg:sl[i]?=some sl[i]:=List.getElem?_eq_getElem hslt
      generalize sl[i]=x at *
      conv=>whnf
      (refine gGo ?_;intros)
      cases x with
      | none =>
       have hh:hasU S.U i c.text=false:=by unfold hasU;rw [hU.non i hsg]
       rw [hh,Bool.not_false,if_pos rfl] at hsn
       refine rowAt_of (by simpa using hsi) ?_
       conv=>whnf
       (refine gGo ?_;intros)
       (refine ⟨_,_,_,callG [] [] [] rfl rfl rfl (by kernel_rfl) (hfl) (by refine ⟨Lent.row ?_,Lent.refl _,trivial⟩;repeat' (first | exact trivial | exact ⟨Lent.refl _,rfl⟩ | exact ⟨Lent.dead _,rfl⟩ | apply And.intro)) rfl ⟨rfl,rfl,rfl,rfl,rfl,by repeat' (first | exact trivial | rfl | apply And.intro),rfl,rfl⟩,?_⟩;conv=>whnf)
       (refine gGo ?_;intros)
       refine rowAt_of (by simpa using hcg2) ?_
       conv=>whnf
       (refine gGo ?_;intros)
       refine zok_intro (by kernel_rfl) ?_
       conv=>whnf
       (refine gGo ?_;intros)
       refine ⟨_,_,?_,⟨r+1,sl,fam,by omega,by rw [hsn];exact hU,rfl,rfl⟩,[(0,0),(1,1),(17,17),(200,200),(111,111),(6,6)],[],[],LeG.mk' rfl rfl rfl (by rw [hsn];exact (by repeat' (first | exact trivial | exact ⟨_,.refl _,rfl⟩ | apply And.intro))) (.ci 0 (.ci 1 (.ci 17 (.fam 200 rfl rfl (fun b hb=>by obtain ⟨x,_,rfl⟩:=List.mem_map.1 hb;rfl) (.ci 111 (.ci 6 .nil)))))) rfl rfl (by rw [hK];rfl)⟩
       omega
      | some q =>
       obtain ⟨l,hl1,hl2⟩:=hU.get i q hsg
       have hh:hasU S.U i c.text=decide (c.text∈l):=by unfold hasU;rw [hl2]
       rw [hh] at hsn
       have hfq:(fam.map setB)[q]?=some (setB l):=by simp [hl1]
       obtain ⟨r0,hr1,hr2⟩:=setE_look l c.text
       refine rowAt_of (by simpa using hsi) ?_
       conv=>whnf
       (refine gGo ?_;intros)
       (refine ⟨_,_,_,callG [] [] [] rfl rfl rfl (by kernel_rfl) (hfl) (by refine ⟨Lent.row ?_,Lent.refl _,trivial⟩;repeat' (first | exact trivial | exact ⟨Lent.refl _,rfl⟩ | exact ⟨Lent.dead _,rfl⟩ | apply And.intro)) rfl ⟨rfl,rfl,rfl,rfl,rfl,by repeat' (first | exact trivial | rfl | apply And.intro),rfl,rfl⟩,?_⟩;conv=>whnf)
       (refine gGo ?_;intros)
       refine rowAt_of (by simpa using hcg2) ?_
       conv=>whnf
       (refine gGo ?_;intros)
       refine zok_intro (by kernel_rfl) ?_
       conv=>whnf
       refine blkAt_of hfq ?_
       refine ⟨r0,hr1,?_⟩
       rw [hr2]
       by_cases hm:c.text∈l
       ·rw [decide_eq_true hm,Bool.not_true,if_neg (by decide)] at hsn
        rw [decide_eq_true hm]
        conv=>whnf
        (refine gGo ?_;intros)
        have hkN:=natRows_len n.kids
        have hkl:=ok.kl
        refine W.loopG (fun m st=>∃ (j:Nat) (sl:List (Option Nat)) (fam:List (List Str)),j≤n.kids.length∧UOK R.length sl fam (kidsU R n r S.U j)∧m=n.kids.length-j∧st=⟨[(0,.bp 0 0),(3,.osl 111 0 0 O.length O.length),(4,.osl 17 0 0 (nodRows R).length (nodRows R).length),(5,.int .i64 i),(6,.bp 6 0),(7,.int .i64 S.unused),(8,.int .i64 r),(21,.osl 1 0 0 (nodRows R).length (nodRows R).length),(22,.int .i64 (nodRows R).length),(23,.int .i64 i),(29,.sl (intRows .i64 d1) false),(30,.int .i64 (intRows .i64 d1).length),(31,.int .i64 r),(71,.sl (natRows n.kids) false),(72,.int .i64 (natRows n.kids).length),(73,.int .i64 j)],[(0,[.rows 1 [[.osl 1 0 0 (nodRows R).length (nodRows R).length]] none]),(1,[.rows 9 (nodRows R) (some [])]),(17,[.rows 1 (sl.map (slotV 200)) (some [200])]),(200,fam.map setB),(111,[.rows 1 (intRows .i64 O) (some [])]),(6,[.rows 9 [n.rowW (.sl (natRows n.kids) false) (.sl (intRows .i64 d1) false) (.dmap (mkD (sumE d2)))] none])],[0,1,17,200,111,6]⟩)
         n.kids.length _ ⟨0,sl,fam,by omega,hU,by omega,rfl⟩ ⟨[(0,0),(1,1),(17,17),(200,200),(111,111),(6,6)],[],[],LeG.mq (.ci 0 (.ci 1 (.ci 17 (.fam 200 rfl rfl (fun b hb=>by obtain ⟨x,_,rfl⟩:=List.mem_map.1 hb;rfl) (.ci 111 (.ci 6 .nil))))))⟩ ?_
        rintro m st ⟨j,sl,fam,hj,hU,rfl,rfl⟩
        have hsl:(sl.map (slotV 200)).length=(nodRows R).length:=by rw [List.length_map,hU.len,hRl]
        (refine gGo ?_;intros)
        refine boolRes_split (fun hb=>?_) (fun hb=>?_)<;>conv=>whnf
        ·have hjl:j<n.kids.length:=by omega
         have hkg:=natRows_get hjl
         have hksn:=kidsU_snoc R n r S.U hjl
         obtain ⟨hkR,hkf⟩:=ok.kids _ (List.getElem_mem hjl)
         have hkx:=nodRows_get hkR
         have hkD:R.getD n.kids[j] n=R[n.kids[j]]:=by simp [hkR]
         rw [hkD] at hksn
         have hkt:=column_spec n.t R[n.kids[j]].fr hkf
         have hcc:(n.t.cols[R[n.kids[j]].fr]).cells.length=rowsN n.t:=ok.v _ (List.getElem_mem hkf)
         have hcg2:=cellRows_get (l:=(n.t.cols[R[n.kids[j]].fr]).cells) (i:=r) (by omega)
         have hct:(n.t.cols[R[n.kids[j]].fr]).cells[r]'(by omega)=cellT n.t R[n.kids[j]].fr r:=by simp [cellT,hkf,hcc,hdl ▸ hrl]
         rw [hct] at hcg2
         clear hct
         have hcl:(cellRows (n.t.cols[R[n.kids[j]].fr]).cells).length=rowsN n.t:=by rw [cellRows_len];exact hcc
         generalize (n.t.cols[R[n.kids[j]].fr]).cells=cc at *
         generalize cellT n.t R[n.kids[j]].fr r=c at *
         generalize hkd:R[n.kids[j]]=kd at *
         generalize hkk:n.kids[j]=k at *
         have hslt:k<sl.length:=by rw [hU.len];exact hkR
         have hsi:(sl.map (slotV 200))[k]?=some (slotV 200 sl[k]):=by simp [hslt]
         have hsg:sl[k]?=some sl[k]:=List.getElem?_eq_getElem hslt
         generalize sl[k]=x at *
         (refine gGo ?_;intros)
         refine rowAt_of (by simpa using hkg) ?_
         conv=>whnf
         (refine gGo ?_;intros)
         cases x with
         | none =>
          refine rowAt_of (by simpa using hsi) ?_
          conv=>whnf
          (refine gGo ?_;intros)
          refine rowAt_of (by simpa using hsi) ?_
          conv=>whnf
          (refine gGs ?_;intros)
          have hfl:(fam.map setB).length=fam.length:=by simp
          have hqs:∀ (j q:Nat),sl[j]?=some (some q)→q<fam.length:=fun j q hj=>by
           obtain ⟨l,h1,_⟩:=hU.get j q hj
           exact (List.getElem?_eq_some_iff.1 h1).1
          refine W.ref (Ref.gather 84 200 (b:=.map [] 0 (some [])) (L:=fam.map setB) (hp:=[(0,[.rows 1 [[.osl 1 0 0 (nodRows R).length (nodRows R).length]] none]),(1,[.rows 9 (nodRows R) (some [])]),(17,[.rows 1 ((sl.set k (some fam.length)).map (slotV 200)) (some [200])]),(111,[.rows 1 (intRows .i64 O) (some [])]),(6,[.rows 9 [n.rowW (.sl (natRows n.kids) false) (.sl (intRows .i64 d1) false) (.dmap (mkD (sumE d2)))] none])])
           (s':=⟨[(0,.bp 0 0),(3,.osl 111 0 0 O.length O.length),(4,.osl 17 0 0 (nodRows R).length (nodRows R).length),(5,.int .i64 i),(6,.bp 6 0),(7,.int .i64 S.unused),(8,.int .i64 r),(11,.int .i64 k),(21,.osl 1 0 0 (nodRows R).length (nodRows R).length),(22,.int .i64 (nodRows R).length),(23,.int .i64 i),(29,.sl (intRows .i64 d1) false),(30,.int .i64 (intRows .i64 d1).length),(31,.int .i64 r),(71,.sl (natRows n.kids) false),(72,.int .i64 (natRows n.kids).length),(73,.int .i64 j)],(200,fam.map setB++[.map [] 0 (some [])])::[(0,[.rows 1 [[.osl 1 0 0 (nodRows R).length (nodRows R).length]] none]),(1,[.rows 9 (nodRows R) (some [])]),(17,[.rows 1 ((sl.set k (some fam.length)).map (slotV 200)) (some [200])]),(111,[.rows 1 (intRows .i64 O) (some [])]),(6,[.rows 9 [n.rowW (.sl (natRows n.kids) false) (.sl (intRows .i64 d1) false) (.dmap (mkD (sumE d2)))] none])],_⟩)
           rfl rfl rfl rfl rfl (fun b hb=>by obtain ⟨x,_,rfl⟩:=List.mem_map.1 hb;rfl) rfl (by repeat' (first | exact trivial | apply And.intro | rfl))
           ⟨⟨rfl,rfl,_,_,rfl,rfl,one_gat rfl,rfl⟩,⟨rfl,rfl,_,_,rfl,rfl,.fam _ rfl,rfl⟩,⟨rfl,rfl,_,_,rfl,rfl,(by rw [hfl];exact slots_gat (by simp) rfl hslt hqs),rfl⟩,⟨rfl,rfl,_,_,rfl,rfl,.fam _ rfl,rfl⟩,⟨rfl,rfl,_,_,rfl,rfl,one_gat rfl,rfl⟩,trivial⟩ rfl (by rw [hK];rfl)) ?_
          have hU1:=hU.add hsg
          have hk1:(sl.set k (some fam.length))[k]?=some (some fam.length):=List.getElem?_set_self hslt
          obtain ⟨l,hl⟩:∃ l:List Str,l=[]:=⟨_,rfl⟩
          have hl1:(fam++[[]])[fam.length]?=some l:=by rw [hl];simp
          have hU2:=hU1.ins hk1 hl1 c.text
          rw [insU_add _ _ _ (hU.non k hsg)] at hU2
          have hfq2:(fam.map setB++[.map [] 0 (some [])])[fam.length]?=some (.map (setE l) l.length (some [])):=by rw [hl,←hfl];simp [setE,tabE]
          obtain ⟨r1,hq1,hq2⟩:=setE_add l c.text
          have hsi2:((sl.set k (some fam.length)).map (slotV 200))[k]?=some [.omap 200 fam.length]:=by rw [List.getElem?_map,hk1];rfl
          have hsl2:((sl.set k (some fam.length)).map (slotV 200)).length=(nodRows R).length:=by rw [List.length_map,List.length_set,hU.len,hRl]
          have hfm:List.map setB (fam++[[]])=List.map setB fam++[.map [] 0 (some [])]:=by rw [List.map_append];rfl
          clear hsl hfl hqs hl1 hU1 hk1
          rcases fam with _ | ⟨y,_ | ⟨z,f⟩⟩
          ·subst hl
           (refine gGo ?_;intros)
           refine rowAt_of (by simpa using hsi2) ?_
           conv=>whnf
           (refine gGo ?_;intros)
           refine rowAt_of (by simpa using hkx) ?_
           conv=>whnf
           (refine gGo ?_;intros)
           (refine ⟨_,_,_,callG [] [] [] rfl rfl rfl (by kernel_rfl) (hkt) (by refine ⟨Lent.row ?_,Lent.refl _,trivial⟩;repeat' (first | exact trivial | exact ⟨Lent.refl _,rfl⟩ | exact ⟨Lent.dead _,rfl⟩ | apply And.intro)) rfl ⟨rfl,rfl,rfl,rfl,rfl,by repeat' (first | exact trivial | rfl | apply And.intro),rfl,rfl⟩,?_⟩;conv=>whnf)
           (refine gGo ?_;intros)
           refine rowAt_of (by simpa using hcg2) ?_
           conv=>whnf
           (refine gGo ?_;intros)
           try refine blkAt_of hfq2 ?_
           refine ⟨r1,hq1,?_⟩
           cases r1 with
           | none =>
            have hset:setB (addS (([]:List Str)) c.text)=.map (setE (([]:List Str))++[((([]:List Str)).length,.str c.text,.bool true)]) ((([]:List Str)).length+1) (some []):=by unfold setB;rw [←hq2.1,hq2.2]
            conv=>whnf
            (refine gGo ?_;intros)
            refine ⟨_,_,?_,⟨j+1,_,_,by omega,(by rw [hksn];exact hU2),rfl,rfl⟩,[(0,0),(1,1),(17,17),(200,200),(111,111),(6,6)],[],[],LeG.mq (.ci 0 (.ci 1 (.ci 17 (.fam 200 rfl (by rw [List.map_set,hfm,hset];rfl) (fun b hb=>by obtain ⟨x,_,rfl⟩:=List.mem_map.1 hb;rfl) (.ci 111 (.ci 6 .nil))))))⟩
            omega
           | some p =>
            obtain ⟨jj,bb,vv⟩:=p
            have hset:setB (addS (([]:List Str)) c.text)=.map ((setE (([]:List Str))).set jj (bb,.str c.text,.bool true)) (([]:List Str)).length (some []):=by unfold setB;rw [←hq2.1,hq2.2]
            conv=>whnf
            (refine gGo ?_;intros)
            refine ⟨_,_,?_,⟨j+1,_,_,by omega,(by rw [hksn];exact hU2),rfl,rfl⟩,[(0,0),(1,1),(17,17),(200,200),(111,111),(6,6)],[],[],LeG.mq (.ci 0 (.ci 1 (.ci 17 (.fam 200 rfl (by rw [List.map_set,hfm,hset];rfl) (fun b hb=>by obtain ⟨x,_,rfl⟩:=List.mem_map.1 hb;rfl) (.ci 111 (.ci 6 .nil))))))⟩
            omega
          ·(refine gGo ?_;intros)
           refine rowAt_of (by simpa using hsi2) ?_
           conv=>whnf
           (refine gGo ?_;intros)
           refine rowAt_of (by simpa using hkx) ?_
           conv=>whnf
           (refine gGo ?_;intros)
           (refine ⟨_,_,_,callG [] [] [] rfl rfl rfl (by kernel_rfl) (hkt) (by refine ⟨Lent.row ?_,Lent.refl _,trivial⟩;repeat' (first | exact trivial | exact ⟨Lent.refl _,rfl⟩ | exact ⟨Lent.dead _,rfl⟩ | apply And.intro)) rfl ⟨rfl,rfl,rfl,rfl,rfl,by repeat' (first | exact trivial | rfl | apply And.intro),rfl,rfl⟩,?_⟩;conv=>whnf)
           (refine gGo ?_;intros)
           refine rowAt_of (by simpa using hcg2) ?_
           conv=>whnf
           (refine gGo ?_;intros)
           try refine blkAt_of hfq2 ?_
           refine ⟨r1,hq1,?_⟩
           cases r1 with
           | none =>
            have hset:setB (addS (l) c.text)=.map (setE (l)++[((l).length,.str c.text,.bool true)]) ((l).length+1) (some []):=by unfold setB;rw [←hq2.1,hq2.2]
            conv=>whnf
            (refine gGo ?_;intros)
            refine ⟨_,_,?_,⟨j+1,_,_,by omega,(by rw [hksn];exact hU2),rfl,rfl⟩,[(0,0),(1,1),(17,17),(200,200),(111,111),(6,6)],[],[],LeG.mq (.ci 0 (.ci 1 (.ci 17 (.fam 200 rfl (by rw [List.map_set,hfm,hset];rfl) (fun b hb=>by obtain ⟨x,_,rfl⟩:=List.mem_map.1 hb;rfl) (.ci 111 (.ci 6 .nil))))))⟩
            omega
           | some p =>
            obtain ⟨jj,bb,vv⟩:=p
            have hset:setB (addS (l) c.text)=.map ((setE (l)).set jj (bb,.str c.text,.bool true)) (l).length (some []):=by unfold setB;rw [←hq2.1,hq2.2]
            conv=>whnf
            (refine gGo ?_;intros)
            refine ⟨_,_,?_,⟨j+1,_,_,by omega,(by rw [hksn];exact hU2),rfl,rfl⟩,[(0,0),(1,1),(17,17),(200,200),(111,111),(6,6)],[],[],LeG.mq (.ci 0 (.ci 1 (.ci 17 (.fam 200 rfl (by rw [List.map_set,hfm,hset];rfl) (fun b hb=>by obtain ⟨x,_,rfl⟩:=List.mem_map.1 hb;rfl) (.ci 111 (.ci 6 .nil))))))⟩
            omega
          ·(refine gGo ?_;intros)
           refine rowAt_of (by simpa using hsi2) ?_
           conv=>whnf
           (refine gGo ?_;intros)
           refine rowAt_of (by simpa using hkx) ?_
           conv=>whnf
           (refine gGo ?_;intros)
           (refine ⟨_,_,_,callG [] [] [] rfl rfl rfl (by kernel_rfl) (hkt) (by refine ⟨Lent.row ?_,Lent.refl _,trivial⟩;repeat' (first | exact trivial | exact ⟨Lent.refl _,rfl⟩ | exact ⟨Lent.dead _,rfl⟩ | apply And.intro)) rfl ⟨rfl,rfl,rfl,rfl,rfl,by repeat' (first | exact trivial | rfl | apply And.intro),rfl,rfl⟩,?_⟩;conv=>whnf)
           (refine gGo ?_;intros)
           refine rowAt_of (by simpa using hcg2) ?_
           conv=>whnf
           (refine gGo ?_;intros)
           try refine blkAt_of hfq2 ?_
           refine ⟨r1,hq1,?_⟩
           cases r1 with
           | none =>
            have hset:setB (addS (l) c.text)=.map (setE (l)++[((l).length,.str c.text,.bool true)]) ((l).length+1) (some []):=by unfold setB;rw [←hq2.1,hq2.2]
            conv=>whnf
            (refine gGo ?_;intros)
            refine ⟨_,_,?_,⟨j+1,_,_,by omega,(by rw [hksn];exact hU2),rfl,rfl⟩,[(0,0),(1,1),(17,17),(200,200),(111,111),(6,6)],[],[],LeG.mq (.ci 0 (.ci 1 (.ci 17 (.fam 200 rfl (by rw [List.map_set,hfm,hset];rfl) (fun b hb=>by obtain ⟨x,_,rfl⟩:=List.mem_map.1 hb;rfl) (.ci 111 (.ci 6 .nil))))))⟩
            omega
           | some p =>
            obtain ⟨jj,bb,vv⟩:=p
            have hset:setB (addS (l) c.text)=.map ((setE (l)).set jj (bb,.str c.text,.bool true)) (l).length (some []):=by unfold setB;rw [←hq2.1,hq2.2]
            conv=>whnf
            (refine gGo ?_;intros)
            refine ⟨_,_,?_,⟨j+1,_,_,by omega,(by rw [hksn];exact hU2),rfl,rfl⟩,[(0,0),(1,1),(17,17),(200,200),(111,111),(6,6)],[],[],LeG.mq (.ci 0 (.ci 1 (.ci 17 (.fam 200 rfl (by rw [List.map_set,hfm,hset];rfl) (fun b hb=>by obtain ⟨x,_,rfl⟩:=List.mem_map.1 hb;rfl) (.ci 111 (.ci 6 .nil))))))⟩
            omega
         | some q =>
          obtain ⟨l,hl1,hl2⟩:=hU.get k q hsg
          have hfq2:(fam.map setB)[q]?=some (.map (setE l) l.length (some [])):=by rw [List.getElem?_map,hl1];rfl
          obtain ⟨r1,hq1,hq2⟩:=setE_add l c.text
          have hU2:=hU.ins hsg hl1 c.text
          have hsi2:(sl.map (slotV 200))[k]?=some [.omap 200 q]:=hsi
          refine rowAt_of (by simpa using hsi2) ?_
          conv=>whnf
          (refine gGo ?_;intros)
          refine blkAt_of hfq2 ?_
          conv=>whnf
          (refine gGo ?_;intros)
          rcases famSplit hl1 with ⟨rfl,rfl⟩ | ⟨y,z,f,rfl⟩
          ·have hfm:List.map setB [l]=[setB l]:=rfl
           refine rowAt_of (by simpa using hsi2) ?_
           conv=>whnf
           (refine gGo ?_;intros)
           refine rowAt_of (by simpa using hkx) ?_
           conv=>whnf
           (refine gGo ?_;intros)
           (refine ⟨_,_,_,callG [] [] [] rfl rfl rfl (by kernel_rfl) (hkt) (by refine ⟨Lent.row ?_,Lent.refl _,trivial⟩;repeat' (first | exact trivial | exact ⟨Lent.refl _,rfl⟩ | exact ⟨Lent.dead _,rfl⟩ | apply And.intro)) rfl ⟨rfl,rfl,rfl,rfl,rfl,by repeat' (first | exact trivial | rfl | apply And.intro),rfl,rfl⟩,?_⟩;conv=>whnf)
           (refine gGo ?_;intros)
           refine rowAt_of (by simpa using hcg2) ?_
           conv=>whnf
           (refine gGo ?_;intros)
           try refine blkAt_of hfq2 ?_
           refine ⟨r1,hq1,?_⟩
           cases r1 with
           | none =>
            have hset:setB (addS (l) c.text)=.map (setE (l)++[((l).length,.str c.text,.bool true)]) ((l).length+1) (some []):=by unfold setB;rw [←hq2.1,hq2.2]
            conv=>whnf
            (refine gGo ?_;intros)
            refine ⟨_,_,?_,⟨j+1,_,_,by omega,(by rw [hksn];exact hU2),rfl,rfl⟩,[(0,0),(1,1),(17,17),(200,200),(111,111),(6,6)],[],[],LeG.mq (.ci 0 (.ci 1 (.ci 17 (.fam 200 rfl (by rw [List.map_set,hfm,hset];rfl) (fun b hb=>by obtain ⟨x,_,rfl⟩:=List.mem_map.1 hb;rfl) (.ci 111 (.ci 6 .nil))))))⟩
            omega
           | some p =>
            obtain ⟨jj,bb,vv⟩:=p
            have hset:setB (addS (l) c.text)=.map ((setE (l)).set jj (bb,.str c.text,.bool true)) (l).length (some []):=by unfold setB;rw [←hq2.1,hq2.2]
            conv=>whnf
            (refine gGo ?_;intros)
            refine ⟨_,_,?_,⟨j+1,_,_,by omega,(by rw [hksn];exact hU2),rfl,rfl⟩,[(0,0),(1,1),(17,17),(200,200),(111,111),(6,6)],[],[],LeG.mq (.ci 0 (.ci 1 (.ci 17 (.fam 200 rfl (by rw [List.map_set,hfm,hset];rfl) (fun b hb=>by obtain ⟨x,_,rfl⟩:=List.mem_map.1 hb;rfl) (.ci 111 (.ci 6 .nil))))))⟩
            omega
          ·have hfm:List.map setB (y::z::f)=setB y::setB z::f.map setB:=rfl
           refine rowAt_of (by simpa using hsi2) ?_
           conv=>whnf
           (refine gGo ?_;intros)
           refine rowAt_of (by simpa using hkx) ?_
           conv=>whnf
           (refine gGo ?_;intros)
           (refine ⟨_,_,_,callG [] [] [] rfl rfl rfl (by kernel_rfl) (hkt) (by refine ⟨Lent.row ?_,Lent.refl _,trivial⟩;repeat' (first | exact trivial | exact ⟨Lent.refl _,rfl⟩ | exact ⟨Lent.dead _,rfl⟩ | apply And.intro)) rfl ⟨rfl,rfl,rfl,rfl,rfl,by repeat' (first | exact trivial | rfl | apply And.intro),rfl,rfl⟩,?_⟩;conv=>whnf)
           (refine gGo ?_;intros)
           refine rowAt_of (by simpa using hcg2) ?_
           conv=>whnf
           (refine gGo ?_;intros)
           try refine blkAt_of hfq2 ?_
           refine ⟨r1,hq1,?_⟩
           cases r1 with
           | none =>
            have hset:setB (addS (l) c.text)=.map (setE (l)++[((l).length,.str c.text,.bool true)]) ((l).length+1) (some []):=by unfold setB;rw [←hq2.1,hq2.2]
            conv=>whnf
            (refine gGo ?_;intros)
            refine ⟨_,_,?_,⟨j+1,_,_,by omega,(by rw [hksn];exact hU2),rfl,rfl⟩,[(0,0),(1,1),(17,17),(200,200),(111,111),(6,6)],[],[],LeG.mq (.ci 0 (.ci 1 (.ci 17 (.fam 200 rfl (by rw [List.map_set,hfm,hset];rfl) (fun b hb=>by obtain ⟨x,_,rfl⟩:=List.mem_map.1 hb;rfl) (.ci 111 (.ci 6 .nil))))))⟩
            omega
           | some p =>
            obtain ⟨jj,bb,vv⟩:=p
            have hset:setB (addS (l) c.text)=.map ((setE (l)).set jj (bb,.str c.text,.bool true)) (l).length (some []):=by unfold setB;rw [←hq2.1,hq2.2]
            conv=>whnf
            (refine gGo ?_;intros)
            refine ⟨_,_,?_,⟨j+1,_,_,by omega,(by rw [hksn];exact hU2),rfl,rfl⟩,[(0,0),(1,1),(17,17),(200,200),(111,111),(6,6)],[],[],LeG.mq (.ci 0 (.ci 1 (.ci 17 (.fam 200 rfl (by rw [List.map_set,hfm,hset];rfl) (fun b hb=>by obtain ⟨x,_,rfl⟩:=List.mem_map.1 hb;rfl) (.ci 111 (.ci 6 .nil))))))⟩
            omega
        ·have hje:j=n.kids.length:=by omega
         rw [hje] at hU
         (refine gGo ?_;intros)
         refine ⟨_,_,?_,⟨r+1,sl,fam,by omega,by rw [hsn];exact hU,rfl,rfl⟩,[(0,0),(1,1),(17,17),(200,200),(111,111),(6,6)],[],[],LeG.mk' rfl rfl rfl (by rw [hsn];exact (by repeat' (first | exact trivial | exact ⟨_,.refl _,rfl⟩ | apply And.intro))) (.ci 0 (.ci 1 (.ci 17 (.fam 200 rfl rfl (fun b hb=>by obtain ⟨x,_,rfl⟩:=List.mem_map.1 hb;rfl) (.ci 111 (.ci 6 .nil)))))) rfl rfl (by rw [hK];rfl)⟩
         omega
       ·rw [decide_eq_false hm,Bool.not_false,if_pos rfl] at hsn
        rw [decide_eq_false hm]
        conv=>whnf
        (refine gGo ?_;intros)
        refine ⟨_,_,?_,⟨r+1,sl,fam,by omega,by rw [hsn];exact hU,rfl,rfl⟩,[(0,0),(1,1),(17,17),(200,200),(111,111),(6,6)],[],[],LeG.mk' rfl rfl rfl (by rw [hsn];exact (by repeat' (first | exact trivial | exact ⟨_,.refl _,rfl⟩ | apply And.intro))) (.ci 0 (.ci 1 (.ci 17 (.fam 200 rfl rfl (fun b hb=>by obtain ⟨x,_,rfl⟩:=List.mem_map.1 hb;rfl) (.ci 111 (.ci 6 .nil)))))) rfl rfl (by rw [hK];rfl)⟩
        omega
    ·rw [decide_eq_false i0,Bool.false_and,if_neg (by decide)] at hsn
     (refine gGo ?_;intros)
     have hkN:=natRows_len n.kids
     have hkl:=ok.kl
     refine W.loopG (fun m st=>∃ (j:Nat) (sl:List (Option Nat)) (fam:List (List Str)),j≤n.kids.length∧UOK R.length sl fam (kidsU R n r S.U j)∧m=n.kids.length-j∧st=⟨[(0,.bp 0 0),(3,.osl 111 0 0 O.length O.length),(4,.osl 17 0 0 (nodRows R).length (nodRows R).length),(5,.int .i64 i),(6,.bp 6 0),(7,.int .i64 S.unused),(8,.int .i64 r),(21,.osl 1 0 0 (nodRows R).length (nodRows R).length),(22,.int .i64 (nodRows R).length),(23,.int .i64 i),(29,.sl (intRows .i64 d1) false),(30,.int .i64 (intRows .i64 d1).length),(31,.int .i64 r),(71,.sl (natRows n.kids) false),(72,.int .i64 (natRows n.kids).length),(73,.int .i64 j)],[(0,[.rows 1 [[.osl 1 0 0 (nodRows R).length (nodRows R).length]] none]),(1,[.rows 9 (nodRows R) (some [])]),(17,[.rows 1 (sl.map (slotV 200)) (some [200])]),(200,fam.map setB),(111,[.rows 1 (intRows .i64 O) (some [])]),(6,[.rows 9 [n.rowW (.sl (natRows n.kids) false) (.sl (intRows .i64 d1) false) (.dmap (mkD (sumE d2)))] none])],[0,1,17,200,111,6]⟩)
      n.kids.length _ ⟨0,sl,fam,by omega,hU,by omega,rfl⟩ ⟨[(0,0),(1,1),(17,17),(200,200),(111,111),(6,6)],[],[],LeG.mq (.ci 0 (.ci 1 (.ci 17 (.fam 200 rfl rfl (fun b hb=>by obtain ⟨x,_,rfl⟩:=List.mem_map.1 hb;rfl) (.ci 111 (.ci 6 .nil))))))⟩ ?_
     rintro m st ⟨j,sl,fam,hj,hU,rfl,rfl⟩
     have hsl:(sl.map (slotV 200)).length=(nodRows R).length:=by rw [List.length_map,hU.len,hRl]
     (refine gGo ?_;intros)
     refine boolRes_split (fun hb=>?_) (fun hb=>?_)<;>conv=>whnf
     ·have hjl:j<n.kids.length:=by omega
      have hkg:=natRows_get hjl
      have hksn:=kidsU_snoc R n r S.U hjl
      obtain ⟨hkR,hkf⟩:=ok.kids _ (List.getElem_mem hjl)
      have hkx:=nodRows_get hkR
      have hkD:R.getD n.kids[j] n=R[n.kids[j]]:=by simp [hkR]
      rw [hkD] at hksn
      have hkt:=column_spec n.t R[n.kids[j]].fr hkf
      have hcc:(n.t.cols[R[n.kids[j]].fr]).cells.length=rowsN n.t:=ok.v _ (List.getElem_mem hkf)
      have hcg2:=cellRows_get (l:=(n.t.cols[R[n.kids[j]].fr]).cells) (i:=r) (by omega)
      have hct:(n.t.cols[R[n.kids[j]].fr]).cells[r]'(by omega)=cellT n.t R[n.kids[j]].fr r:=by simp [cellT,hkf,hcc,hdl ▸ hrl]
      rw [hct] at hcg2
      clear hct
      have hcl:(cellRows (n.t.cols[R[n.kids[j]].fr]).cells).length=rowsN n.t:=by rw [cellRows_len];exact hcc
      generalize (n.t.cols[R[n.kids[j]].fr]).cells=cc at *
      generalize cellT n.t R[n.kids[j]].fr r=c at *
      generalize hkd:R[n.kids[j]]=kd at *
      generalize hkk:n.kids[j]=k at *
      have hslt:k<sl.length:=by rw [hU.len];exact hkR
      have hsi:(sl.map (slotV 200))[k]?=some (slotV 200 sl[k]):=by simp [hslt]
      have hsg:sl[k]?=some sl[k]:=List.getElem?_eq_getElem hslt
      generalize sl[k]=x at *
      (refine gGo ?_;intros)
      refine rowAt_of (by simpa using hkg) ?_
      conv=>whnf
      (refine gGo ?_;intros)
      cases x with
      | none =>
       refine rowAt_of (by simpa using hsi) ?_
       conv=>whnf
       (refine gGo ?_;intros)
       refine rowAt_of (by simpa using hsi) ?_
       conv=>whnf
       (refine gGs ?_;intros)
       have hfl:(fam.map setB).length=fam.length:=by simp
       have hqs:∀ (j q:Nat),sl[j]?=some (some q)→q<fam.length:=fun j q hj=>by
        obtain ⟨l,h1,_⟩:=hU.get j q hj
        exact (List.getElem?_eq_some_iff.1 h1).1
       refine W.ref (Ref.gather 84 200 (b:=.map [] 0 (some [])) (L:=fam.map setB) (hp:=[(0,[.rows 1 [[.osl 1 0 0 (nodRows R).length (nodRows R).length]] none]),(1,[.rows 9 (nodRows R) (some [])]),(17,[.rows 1 ((sl.set k (some fam.length)).map (slotV 200)) (some [200])]),(111,[.rows 1 (intRows .i64 O) (some [])]),(6,[.rows 9 [n.rowW (.sl (natRows n.kids) false) (.sl (intRows .i64 d1) false) (.dmap (mkD (sumE d2)))] none])])
        (s':=⟨[(0,.bp 0 0),(3,.osl 111 0 0 O.length O.length),(4,.osl 17 0 0 (nodRows R).length (nodRows R).length),(5,.int .i64 i),(6,.bp 6 0),(7,.int .i64 S.unused),(8,.int .i64 r),(11,.int .i64 k),(21,.osl 1 0 0 (nodRows R).length (nodRows R).length),(22,.int .i64 (nodRows R).length),(23,.int .i64 i),(29,.sl (intRows .i64 d1) false),(30,.int .i64 (intRows .i64 d1).length),(31,.int .i64 r),(71,.sl (natRows n.kids) false),(72,.int .i64 (natRows n.kids).length),(73,.int .i64 j)],(200,fam.map setB++[.map [] 0 (some [])])::[(0,[.rows 1 [[.osl 1 0 0 (nodRows R).length (nodRows R).length]] none]),(1,[.rows 9 (nodRows R) (some [])]),(17,[.rows 1 ((sl.set k (some fam.length)).map (slotV 200)) (some [200])]),(111,[.rows 1 (intRows .i64 O) (some [])]),(6,[.rows 9 [n.rowW (.sl (natRows n.kids) false) (.sl (intRows .i64 d1) false) (.dmap (mkD (sumE d2)))] none])],_⟩)
        rfl rfl rfl rfl rfl (fun b hb=>by obtain ⟨x,_,rfl⟩:=List.mem_map.1 hb;rfl) rfl (by repeat' (first | exact trivial | apply And.intro | rfl))
        ⟨⟨rfl,rfl,_,_,rfl,rfl,one_gat rfl,rfl⟩,⟨rfl,rfl,_,_,rfl,rfl,.fam _ rfl,rfl⟩,⟨rfl,rfl,_,_,rfl,rfl,(by rw [hfl];exact slots_gat (by simp) rfl hslt hqs),rfl⟩,⟨rfl,rfl,_,_,rfl,rfl,.fam _ rfl,rfl⟩,⟨rfl,rfl,_,_,rfl,rfl,one_gat rfl,rfl⟩,trivial⟩ rfl (by rw [hK];rfl)) ?_
       have hU1:=hU.add hsg
       have hk1:(sl.set k (some fam.length))[k]?=some (some fam.length):=List.getElem?_set_self hslt
       obtain ⟨l,hl⟩:∃ l:List Str,l=[]:=⟨_,rfl⟩
       have hl1:(fam++[[]])[fam.length]?=some l:=by rw [hl];simp
       have hU2:=hU1.ins hk1 hl1 c.text
       rw [insU_add _ _ _ (hU.non k hsg)] at hU2
       have hfq2:(fam.map setB++[.map [] 0 (some [])])[fam.length]?=some (.map (setE l) l.length (some [])):=by rw [hl,←hfl];simp [setE,tabE]
       obtain ⟨r1,hq1,hq2⟩:=setE_add l c.text
       have hsi2:((sl.set k (some fam.length)).map (slotV 200))[k]?=some [.omap 200 fam.length]:=by rw [List.getElem?_map,hk1];rfl
       have hsl2:((sl.set k (some fam.length)).map (slotV 200)).length=(nodRows R).length:=by rw [List.length_map,List.length_set,hU.len,hRl]
       have hfm:List.map setB (fam++[[]])=List.map setB fam++[.map [] 0 (some [])]:=by rw [List.map_append];rfl
       clear hsl hfl hqs hl1 hU1 hk1
       rcases fam with _ | ⟨y,_ | ⟨z,f⟩⟩
       ·subst hl
        (refine gGo ?_;intros)
        refine rowAt_of (by simpa using hsi2) ?_
        conv=>whnf
        (refine gGo ?_;intros)
        refine rowAt_of (by simpa using hkx) ?_
        conv=>whnf
        (refine gGo ?_;intros)
        (refine ⟨_,_,_,callG [] [] [] rfl rfl rfl (by kernel_rfl) (hkt) (by refine ⟨Lent.row ?_,Lent.refl _,trivial⟩;repeat' (first | exact trivial | exact ⟨Lent.refl _,rfl⟩ | exact ⟨Lent.dead _,rfl⟩ | apply And.intro)) rfl ⟨rfl,rfl,rfl,rfl,rfl,by repeat' (first | exact trivial | rfl | apply And.intro),rfl,rfl⟩,?_⟩;conv=>whnf)
        (refine gGo ?_;intros)
        refine rowAt_of (by simpa using hcg2) ?_
        conv=>whnf
        (refine gGo ?_;intros)
        try refine blkAt_of hfq2 ?_
        refine ⟨r1,hq1,?_⟩
        cases r1 with
        | none =>
         have hset:setB (addS (([]:List Str)) c.text)=.map (setE (([]:List Str))++[((([]:List Str)).length,.str c.text,.bool true)]) ((([]:List Str)).length+1) (some []):=by unfold setB;rw [←hq2.1,hq2.2]
         conv=>whnf
         (refine gGo ?_;intros)
         refine ⟨_,_,?_,⟨j+1,_,_,by omega,(by rw [hksn];exact hU2),rfl,rfl⟩,[(0,0),(1,1),(17,17),(200,200),(111,111),(6,6)],[],[],LeG.mq (.ci 0 (.ci 1 (.ci 17 (.fam 200 rfl (by rw [List.map_set,hfm,hset];rfl) (fun b hb=>by obtain ⟨x,_,rfl⟩:=List.mem_map.1 hb;rfl) (.ci 111 (.ci 6 .nil))))))⟩
         omega
        | some p =>
         obtain ⟨jj,bb,vv⟩:=p
         have hset:setB (addS (([]:List Str)) c.text)=.map ((setE (([]:List Str))).set jj (bb,.str c.text,.bool true)) (([]:List Str)).length (some []):=by unfold setB;rw [←hq2.1,hq2.2]
         conv=>whnf
         (refine gGo ?_;intros)
         refine ⟨_,_,?_,⟨j+1,_,_,by omega,(by rw [hksn];exact hU2),rfl,rfl⟩,[(0,0),(1,1),(17,17),(200,200),(111,111),(6,6)],[],[],LeG.mq (.ci 0 (.ci 1 (.ci 17 (.fam 200 rfl (by rw [List.map_set,hfm,hset];rfl) (fun b hb=>by obtain ⟨x,_,rfl⟩:=List.mem_map.1 hb;rfl) (.ci 111 (.ci 6 .nil))))))⟩
         omega
       ·(refine gGo ?_;intros)
        refine rowAt_of (by simpa using hsi2) ?_
        conv=>whnf
        (refine gGo ?_;intros)
        refine rowAt_of (by simpa using hkx) ?_
        conv=>whnf
        (refine gGo ?_;intros)
        (refine ⟨_,_,_,callG [] [] [] rfl rfl rfl (by kernel_rfl) (hkt) (by refine ⟨Lent.row ?_,Lent.refl _,trivial⟩;repeat' (first | exact trivial | exact ⟨Lent.refl _,rfl⟩ | exact ⟨Lent.dead _,rfl⟩ | apply And.intro)) rfl ⟨rfl,rfl,rfl,rfl,rfl,by repeat' (first | exact trivial | rfl | apply And.intro),rfl,rfl⟩,?_⟩;conv=>whnf)
        (refine gGo ?_;intros)
        refine rowAt_of (by simpa using hcg2) ?_
        conv=>whnf
        (refine gGo ?_;intros)
        try refine blkAt_of hfq2 ?_
        refine ⟨r1,hq1,?_⟩
        cases r1 with
        | none =>
         have hset:setB (addS (l) c.text)=.map (setE (l)++[((l).length,.str c.text,.bool true)]) ((l).length+1) (some []):=by unfold setB;rw [←hq2.1,hq2.2]
         conv=>whnf
         (refine gGo ?_;intros)
         refine ⟨_,_,?_,⟨j+1,_,_,by omega,(by rw [hksn];exact hU2),rfl,rfl⟩,[(0,0),(1,1),(17,17),(200,200),(111,111),(6,6)],[],[],LeG.mq (.ci 0 (.ci 1 (.ci 17 (.fam 200 rfl (by rw [List.map_set,hfm,hset];rfl) (fun b hb=>by obtain ⟨x,_,rfl⟩:=List.mem_map.1 hb;rfl) (.ci 111 (.ci 6 .nil))))))⟩
         omega
        | some p =>
         obtain ⟨jj,bb,vv⟩:=p
         have hset:setB (addS (l) c.text)=.map ((setE (l)).set jj (bb,.str c.text,.bool true)) (l).length (some []):=by unfold setB;rw [←hq2.1,hq2.2]
         conv=>whnf
         (refine gGo ?_;intros)
         refine ⟨_,_,?_,⟨j+1,_,_,by omega,(by rw [hksn];exact hU2),rfl,rfl⟩,[(0,0),(1,1),(17,17),(200,200),(111,111),(6,6)],[],[],LeG.mq (.ci 0 (.ci 1 (.ci 17 (.fam 200 rfl (by rw [List.map_set,hfm,hset];rfl) (fun b hb=>by obtain ⟨x,_,rfl⟩:=List.mem_map.1 hb;rfl) (.ci 111 (.ci 6 .nil))))))⟩
         omega
       ·(refine gGo ?_;intros)
        refine rowAt_of (by simpa using hsi2) ?_
        conv=>whnf
        (refine gGo ?_;intros)
        refine rowAt_of (by simpa using hkx) ?_
        conv=>whnf
        (refine gGo ?_;intros)
        (refine ⟨_,_,_,callG [] [] [] rfl rfl rfl (by kernel_rfl) (hkt) (by refine ⟨Lent.row ?_,Lent.refl _,trivial⟩;repeat' (first | exact trivial | exact ⟨Lent.refl _,rfl⟩ | exact ⟨Lent.dead _,rfl⟩ | apply And.intro)) rfl ⟨rfl,rfl,rfl,rfl,rfl,by repeat' (first | exact trivial | rfl | apply And.intro),rfl,rfl⟩,?_⟩;conv=>whnf)
        (refine gGo ?_;intros)
        refine rowAt_of (by simpa using hcg2) ?_
        conv=>whnf
        (refine gGo ?_;intros)
        try refine blkAt_of hfq2 ?_
        refine ⟨r1,hq1,?_⟩
        cases r1 with
        | none =>
         have hset:setB (addS (l) c.text)=.map (setE (l)++[((l).length,.str c.text,.bool true)]) ((l).length+1) (some []):=by unfold setB;rw [←hq2.1,hq2.2]
         conv=>whnf
         (refine gGo ?_;intros)
         refine ⟨_,_,?_,⟨j+1,_,_,by omega,(by rw [hksn];exact hU2),rfl,rfl⟩,[(0,0),(1,1),(17,17),(200,200),(111,111),(6,6)],[],[],LeG.mq (.ci 0 (.ci 1 (.ci 17 (.fam 200 rfl (by rw [List.map_set,hfm,hset];rfl) (fun b hb=>by obtain ⟨x,_,rfl⟩:=List.mem_map.1 hb;rfl) (.ci 111 (.ci 6 .nil))))))⟩
         omega
        | some p =>
         obtain ⟨jj,bb,vv⟩:=p
         have hset:setB (addS (l) c.text)=.map ((setE (l)).set jj (bb,.str c.text,.bool true)) (l).length (some []):=by unfold setB;rw [←hq2.1,hq2.2]
         conv=>whnf
         (refine gGo ?_;intros)
         refine ⟨_,_,?_,⟨j+1,_,_,by omega,(by rw [hksn];exact hU2),rfl,rfl⟩,[(0,0),(1,1),(17,17),(200,200),(111,111),(6,6)],[],[],LeG.mq (.ci 0 (.ci 1 (.ci 17 (.fam 200 rfl (by rw [List.map_set,hfm,hset];rfl) (fun b hb=>by obtain ⟨x,_,rfl⟩:=List.mem_map.1 hb;rfl) (.ci 111 (.ci 6 .nil))))))⟩
         omega
      | some q =>
       obtain ⟨l,hl1,hl2⟩:=hU.get k q hsg
       have hfq2:(fam.map setB)[q]?=some (.map (setE l) l.length (some [])):=by rw [List.getElem?_map,hl1];rfl
       obtain ⟨r1,hq1,hq2⟩:=setE_add l c.text
       have hU2:=hU.ins hsg hl1 c.text
       have hsi2:(sl.map (slotV 200))[k]?=some [.omap 200 q]:=hsi
       refine rowAt_of (by simpa using hsi2) ?_
       conv=>whnf
       (refine gGo ?_;intros)
       refine blkAt_of hfq2 ?_
       conv=>whnf
       (refine gGo ?_;intros)
       rcases famSplit hl1 with ⟨rfl,rfl⟩ | ⟨y,z,f,rfl⟩
       ·have hfm:List.map setB [l]=[setB l]:=rfl
        refine rowAt_of (by simpa using hsi2) ?_
        conv=>whnf
        (refine gGo ?_;intros)
        refine rowAt_of (by simpa using hkx) ?_
        conv=>whnf
        (refine gGo ?_;intros)
        (refine ⟨_,_,_,callG [] [] [] rfl rfl rfl (by kernel_rfl) (hkt) (by refine ⟨Lent.row ?_,Lent.refl _,trivial⟩;repeat' (first | exact trivial | exact ⟨Lent.refl _,rfl⟩ | exact ⟨Lent.dead _,rfl⟩ | apply And.intro)) rfl ⟨rfl,rfl,rfl,rfl,rfl,by repeat' (first | exact trivial | rfl | apply And.intro),rfl,rfl⟩,?_⟩;conv=>whnf)
        (refine gGo ?_;intros)
        refine rowAt_of (by simpa using hcg2) ?_
        conv=>whnf
        (refine gGo ?_;intros)
        try refine blkAt_of hfq2 ?_
        refine ⟨r1,hq1,?_⟩
        cases r1 with
        | none =>
         have hset:setB (addS (l) c.text)=.map (setE (l)++[((l).length,.str c.text,.bool true)]) ((l).length+1) (some []):=by unfold setB;rw [←hq2.1,hq2.2]
         conv=>whnf
         (refine gGo ?_;intros)
         refine ⟨_,_,?_,⟨j+1,_,_,by omega,(by rw [hksn];exact hU2),rfl,rfl⟩,[(0,0),(1,1),(17,17),(200,200),(111,111),(6,6)],[],[],LeG.mq (.ci 0 (.ci 1 (.ci 17 (.fam 200 rfl (by rw [List.map_set,hfm,hset];rfl) (fun b hb=>by obtain ⟨x,_,rfl⟩:=List.mem_map.1 hb;rfl) (.ci 111 (.ci 6 .nil))))))⟩
         omega
        | some p =>
         obtain ⟨jj,bb,vv⟩:=p
         have hset:setB (addS (l) c.text)=.map ((setE (l)).set jj (bb,.str c.text,.bool true)) (l).length (some []):=by unfold setB;rw [←hq2.1,hq2.2]
         conv=>whnf
         (refine gGo ?_;intros)
         refine ⟨_,_,?_,⟨j+1,_,_,by omega,(by rw [hksn];exact hU2),rfl,rfl⟩,[(0,0),(1,1),(17,17),(200,200),(111,111),(6,6)],[],[],LeG.mq (.ci 0 (.ci 1 (.ci 17 (.fam 200 rfl (by rw [List.map_set,hfm,hset];rfl) (fun b hb=>by obtain ⟨x,_,rfl⟩:=List.mem_map.1 hb;rfl) (.ci 111 (.ci 6 .nil))))))⟩
         omega
       ·have hfm:List.map setB (y::z::f)=setB y::setB z::f.map setB:=rfl
        refine rowAt_of (by simpa using hsi2) ?_
        conv=>whnf
        (refine gGo ?_;intros)
        refine rowAt_of (by simpa using hkx) ?_
        conv=>whnf
        (refine gGo ?_;intros)
        (refine ⟨_,_,_,callG [] [] [] rfl rfl rfl (by kernel_rfl) (hkt) (by refine ⟨Lent.row ?_,Lent.refl _,trivial⟩;repeat' (first | exact trivial | exact ⟨Lent.refl _,rfl⟩ | exact ⟨Lent.dead _,rfl⟩ | apply And.intro)) rfl ⟨rfl,rfl,rfl,rfl,rfl,by repeat' (first | exact trivial | rfl | apply And.intro),rfl,rfl⟩,?_⟩;conv=>whnf)
        (refine gGo ?_;intros)
        refine rowAt_of (by simpa using hcg2) ?_
        conv=>whnf
        (refine gGo ?_;intros)
        try refine blkAt_of hfq2 ?_
        refine ⟨r1,hq1,?_⟩
        cases r1 with
        | none =>
         have hset:setB (addS (l) c.text)=.map (setE (l)++[((l).length,.str c.text,.bool true)]) ((l).length+1) (some []):=by unfold setB;rw [←hq2.1,hq2.2]
         conv=>whnf
         (refine gGo ?_;intros)
         refine ⟨_,_,?_,⟨j+1,_,_,by omega,(by rw [hksn];exact hU2),rfl,rfl⟩,[(0,0),(1,1),(17,17),(200,200),(111,111),(6,6)],[],[],LeG.mq (.ci 0 (.ci 1 (.ci 17 (.fam 200 rfl (by rw [List.map_set,hfm,hset];rfl) (fun b hb=>by obtain ⟨x,_,rfl⟩:=List.mem_map.1 hb;rfl) (.ci 111 (.ci 6 .nil))))))⟩
         omega
        | some p =>
         obtain ⟨jj,bb,vv⟩:=p
         have hset:setB (addS (l) c.text)=.map ((setE (l)).set jj (bb,.str c.text,.bool true)) (l).length (some []):=by unfold setB;rw [←hq2.1,hq2.2]
         conv=>whnf
         (refine gGo ?_;intros)
         refine ⟨_,_,?_,⟨j+1,_,_,by omega,(by rw [hksn];exact hU2),rfl,rfl⟩,[(0,0),(1,1),(17,17),(200,200),(111,111),(6,6)],[],[],LeG.mq (.ci 0 (.ci 1 (.ci 17 (.fam 200 rfl (by rw [List.map_set,hfm,hset];rfl) (fun b hb=>by obtain ⟨x,_,rfl⟩:=List.mem_map.1 hb;rfl) (.ci 111 (.ci 6 .nil))))))⟩
         omega
     ·have hje:j=n.kids.length:=by omega
      rw [hje] at hU
      (refine gGo ?_;intros)
      refine ⟨_,_,?_,⟨r+1,sl,fam,by omega,by rw [hsn];exact hU,rfl,rfl⟩,[(0,0),(1,1),(17,17),(200,200),(111,111),(6,6)],[],[],LeG.mk' rfl rfl rfl (by rw [hsn];exact (by repeat' (first | exact trivial | exact ⟨_,.refl _,rfl⟩ | apply And.intro))) (.ci 0 (.ci 1 (.ci 17 (.fam 200 rfl rfl (fun b hb=>by obtain ⟨x,_,rfl⟩:=List.mem_map.1 hb;rfl) (.ci 111 (.ci 6 .nil)))))) rfl rfl (by rw [hK];rfl)⟩
      omega
  ·have hre:r=d1.length:=by omega
   rw [hre] at hS
   rw [hS] at hstep
   have hOr:=intRows_len .i64 O
   have hil2:r≤4096:=by omega
   by_cases i0:0<i
   ·rw [if_pos i0] at hstep
    (refine gGo ?_;intros)
    refine ⟨⟨rowsSz_cons rfl rowsSz_nil,by omega⟩,fitsN (n:=O.length+1) (b:=8) (by omega) (by omega),.inl ⟨rfl,rfl,?_⟩⟩
    conv=>whnf
    (refine gGo ?_;intros)
    have hOn:(O++[S.unused]).length=O.length+1:=by simp
    have hOs:intRows .i64 (O++[S.unused])=intRows .i64 O++[[.int .i64 S.unused]]:=intRows_snoc O S.unused
    refine ⟨_,_,?_,⟨i+1,sl,fam,by omega,by rw [hstep];exact hU,rfl,rfl⟩,[(0,0),(1,1),(17,17),(200,200),(111,111)],[],[],LeG.mk' rfl rfl rfl (by rw [hstep];simp only [hOn];exact (by repeat' (first | exact trivial | exact ⟨_,.refl _,rfl⟩ | apply And.intro))) (.ci 0 (.ci 1 (.ci 17 (.fam 200 rfl rfl (fun b hb=>by obtain ⟨x,_,rfl⟩:=List.mem_map.1 hb;rfl) (.cons 111 rfl rfl (.refl _) (by rw [hstep];simp only [hOs];rfl) .nil))))) rfl rfl (by rw [hK];rfl)⟩
    omega
   ·rw [if_neg i0] at hstep
    (refine gGo ?_;intros)
    refine ⟨_,_,?_,⟨i+1,sl,fam,by omega,by rw [hstep];exact hU,rfl,rfl⟩,[(0,0),(1,1),(17,17),(200,200),(111,111)],[],[],LeG.mk' rfl rfl rfl (by rw [hstep];exact (by repeat' (first | exact trivial | exact ⟨_,.refl _,rfl⟩ | apply And.intro))) (.ci 0 (.ci 1 (.ci 17 (.fam 200 rfl rfl (fun b hb=>by obtain ⟨x,_,rfl⟩:=List.mem_map.1 hb;rfl) (.cons 111 rfl rfl (.refl _) (by rw [hstep];rfl) .nil))))) rfl rfl (by rw [hK];rfl)⟩
    omega
 ·obtain rfl:i=N:=by omega
  have hOr:=intRows_len .i64 (nodesU R i).1
  (refine gGo ?_;intros)
  refine W.leG (mp:=[(0,0),(1,1)]) (bo:=[111]) (st':=⟨[(2,.sl (intRows .i64 (nodesU R i).1) false)],[(0,[.rows 1 [[.osl 1 0 0 (nodRows R).length (nodRows R).length]] none]),(1,[.rows 9 (nodRows R) (some [])])],[0,1]⟩)
   (LeG.mk' rfl rfl rfl ⟨⟨_,Lent.whole rfl rfl hOr.symm rfl (.inl rfl),rfl⟩,trivial⟩ (.ci 0 (.ci 1 .nil)) rfl rfl (by rw [hK];rfl)) ?_
  (refine gM ?_;conv=>whnf)
  exact retH rfl (.refl _) rfl rfl rfl ⟨rfl,rfl,rfl,rfl,trivial⟩
theorem planOK {l:List Table}{p:Pth}(h:validE l p=0):∀ i,i<(planN l p).length→∃ n d,NodOK (planN l p) i n d:=by
 intro i hi
 have hlen:=planN_len l p
 have hv:=valid_path h
 have hg:=plan_get l p (i:=i) (by omega)
 obtain ⟨tn,ht⟩:=node_tab l p p.steps.length i
 have hrows:=tabOf_rows hv.1 tn
 rw [←ht] at hrows
 have hkl:(kidsL p p.steps.length i).length≤p.steps.length:=by
  unfold kidsL
  rw [List.length_map]
  exact Nat.le_trans (List.length_filter_le _ _) (by simp)
 refine ⟨_,(cntsN l p i,talsN l p i),hg,rfl,cntsN_len l p i,hrows.1,hrows.2,?_,?_,?_⟩
 ·show (nodeAt l p p.steps.length i).kids.length≤100
  rw [nodeAt_kids];omega
 ·intro k hk
  change k∈(nodeAt l p p.steps.length i).kids at hk
  rw [nodeAt_kids] at hk
  obtain ⟨q,g1,g2,rfl⟩:=kidsL_mem.1 hk
  have hq:=plan_get l p (i:=q+1) (by omega)
  obtain ⟨d3,d4⟩:=List.getElem?_eq_some_iff.1 hq
  have hsf:=pathB_step hv.2.2 g1
  refine ⟨d3,?_⟩
  rw [d4]
  show (stpAt p q).fc.toNat<(nodeAt l p p.steps.length i).t.cols.length
  rw [←g2,par_tab g1 hsf.old]
  have:=hsf.fc
  omega
 ·intro h0
  obtain ⟨q,rfl⟩:∃ q,i=q+1:=⟨i-1,by omega⟩
  have hsf:=pathB_step hv.2.2 (show q<p.steps.length by omega)
  show (stpAt p q).tc.toNat<(tabOf l (stpAt p q).tt).cols.length
  have:=hsf.tc
  omega
end Go.Sx.Sp
