/- Reports of paths. -/
import Derived.Test.YtfigakbjegopkaaGreatDoorJThree
import Derived.Test.YtfigakbjegopkaaGreatDoorSxFour
set_option linter.unusedVariables false
set_option linter.unusedSimpArgs false
namespace Go.Sx.Sp
open Go Go.Sx Go.Proofs
attribute [local irreducible] GoodW famL
def repStep (r:Rep) (n:Int):Rep:=⟨r.rows+n,if n=0 then r.lost+1 else r.lost,max r.most n,r.unused⟩
def repL (un:List Int) (cs:List Int):Rep:=cs.foldl repStep ⟨0,0,0,un⟩
def repE (l:List Table) (p:Pth):Rep×Int:=if validE l p=0 then (repL (nodesU (planN l p) (p.steps.length+1)).1 (cntsN l p 0),0) else (⟨0,0,0,[]⟩,validE l p)
theorem repL_snoc (un:List Int) {cs:List Int}{j:Nat}(h:j<cs.length):repL un (cs.take (j+1))=repStep (repL un (cs.take j)) cs[j]:=by
 unfold repL
 rw [List.take_succ_eq_append_getElem h,List.foldl_append];rfl
theorem plan_bound {l:List Table}{p:Pth}(h:validE l p=0) {i:Nat}(hi:i≤p.steps.length):∀ x∈cntsN l p i,0≤x∧x≤1125899906842624:=by
 have hlen:=nodesN_len l p p.steps.length (Nat.le_refl _)
 obtain ⟨k,hk⟩:∃ k,k+i=p.steps.length:=⟨p.steps.length-i,by omega⟩
 have hnx:(runD (nodesN l p p.steps.length) (p.steps.length+1) k)[i]?=some (nodeAt l p p.steps.length i):=by
  obtain ⟨d,h1,_,h3⟩:=runD_shape hlen k (by omega) i _ (nodesN_get l p (Nat.le_refl _) hi)
  rw [h1,h3 (by omega)]
 have hst:∀ q,i≤q→(planN l p)[q]?=(runD (nodesN l p p.steps.length) (p.steps.length+1) (k+1))[q]?:=fun q hq=>by
  unfold planN
  have:=run_stable (nodesN l p p.steps.length) (p.steps.length+1) q (k+1) i (by omega) (by omega)
  rw [show k+1+i=p.steps.length+1 by omega] at this
  exact this
 have hst2:∀ q,i<q→(planN l p)[q]?=(runD (nodesN l p p.steps.length) (p.steps.length+1) k)[q]?:=fun q hq=>by
  rw [hst q (by omega)]
  exact run_stable (nodesN l p p.steps.length) (p.steps.length+1) q k 1 (by omega) (by omega)
 have hko:kidsOf (runD (nodesN l p p.steps.length) (p.steps.length+1) k) (nodeAt l p p.steps.length i)=kidsOf (planN l p) (nodeAt l p p.steps.length i):=by
  refine kidsOf_congr fun q hq=>?_
  rw [nodeAt_kids] at hq
  obtain ⟨q',g1,g2,rfl⟩:=kidsL_mem.1 hq
  have:=parI_le p (i:=q') (by omega)
  exact (hst2 _ (by omega)).symm
 have hc:=cntOK_of h k (by omega)
 rw [show p.steps.length+1-1-k=i by omega] at hc
 have hb:=hc.bnd
 obtain ⟨g1,g2⟩:=List.getElem?_eq_some_iff.1 hnx
 rw [g2] at hb
 intro x hx
 unfold cntsN at hx
 obtain ⟨r,hr,rfl⟩:=List.mem_map.1 hx
 have:=hb r (List.mem_range.1 hr) _ (Nat.le_refl _)
 rw [show (nodeAt l p p.steps.length i).kids.length=(kidsOf (runD (nodesN l p p.steps.length) (p.steps.length+1) k) (nodeAt l p p.steps.length i)).length by simp [kidsOf],List.take_length,hko] at this
 exact this
theorem repL_bound (un:List Int) (M:Int) (hM:0≤M):∀ (cs:List Int),(∀ x∈cs,0≤x∧x≤M)→∀ j,j≤cs.length→(0≤(repL un (cs.take j)).rows∧(repL un (cs.take j)).rows≤j*M)∧(0≤(repL un (cs.take j)).lost∧(repL un (cs.take j)).lost≤j)∧(0≤(repL un (cs.take j)).most∧(repL un (cs.take j)).most≤M)
 | cs,h,0,_=>by simp [repL];exact hM
 | cs,h,j+1,hj=>by
  have ih:=repL_bound un M hM cs h j (by omega)
  have hx:=h cs[j] (List.getElem_mem (by omega))
  rw [repL_snoc un (show j<cs.length by omega)]
  have e:((j+1:Nat):Int)*M=j*M+M:=by rw [Int.natCast_add,Int.add_mul];simp
  rw [e]
  unfold repStep
  simp only
  refine ⟨by omega,?_,by omega⟩
  split<;>omega
theorem repL_un (un:List Int):∀ (cs:List Int) (r:Rep),(cs.foldl repStep r).unused=r.unused
 | [],_=>rfl
 | c::cs,r=>by rw [List.foldl_cons,repL_un un cs];rfl
set_option maxHeartbeats 8000000 in
theorem report_spec (l:List Table) (p:Pth):Spec Tryz.prog 29 [.sl (tblRows l) false,.agg p.row] [] (.tup [.agg (repE l p).1.row,.int .i64 (repE l p).2]) []:=by
 have sp1:=validP_spec l p
 refine gEn env Tryz.func29 fun Γ hN hK hML=>?_
 (refine gGo ?_;intros)
 (refine gPC (sp1) ?_;conv=>whnf)
 by_cases h:validE l p=0
 ·have he:repE l p=(repL (nodesU (planN l p) (p.steps.length+1)).1 (cntsN l p 0),0):=by unfold repE;rw [if_pos h]
  have sp2:=new_spec l p (pathOK_of h) (cntOK_of h)
  have hlen:=planN_len l p
  have hg:=plan_get l p (Nat.zero_le p.steps.length)
  obtain ⟨h0,h1⟩:=List.getElem?_eq_some_iff.1 hg
  have hv:=valid_path h
  have hrows:(cntsN l p 0).length≤4096:=by
   rw [cntsN_len];exact (tabOf_rows hv.1 _).1
  have sp3:=each_spec (planN l p) (p.steps.length+1) hlen.symm h0 (by omega) (d:=(cntsN l p 0,talsN l p 0)) (by rw [h1]) hrows
  have sp4:=unused_spec (planN l p) (p.steps.length+1) hlen.symm (by omega) (planOK h)
  have hpb:=plan_bound h (Nat.zero_le _)
  rw [he]
  rw [h]
  generalize (nodesU (planN l p) (p.steps.length+1)).1=un at *
  generalize cntsN l p 0=cs at *
  have hrb:=repL_bound un 1125899906842624 (by decide) cs hpb
  have hcl:=intRows_len .i64 cs
  (refine gGo ?_;intros)
  (refine gCA [] [(0,15),(1,90)] [] (sp2) ?_;conv=>whnf)
  (refine gGo ?_;intros)
  (refine gCA [(0,15),(1,90)] [] [] (sp4) ?_;conv=>whnf)
  (refine gGo ?_;intros)
  (refine gCA [(0,15),(1,90)] [] [] (sp3) ?_;conv=>whnf)
  (refine gGo ?_;intros)
  refine W.leG (mp:=[(3,3),(4,4),(8,8)]) (bo:=[]) (st':=⟨[(4,.bp 4 0),(8,.bp 8 0),(25,.sl (intRows .i64 cs) false),(26,.int .i64 (intRows .i64 cs).length),(27,.int .i64 0)],[(3,[.rows 2 [p.row] none]),(4,[.rows 4 [[.int .i64 0,.int .i64 0,.int .i64 0,.nils]] none]),(8,[.rows 4 [[.int .i64 0,.int .i64 0,.int .i64 0,.sl (intRows .i64 un) false]] none])],[3,4,8]⟩)
   (LeG.mq (.ci 3 (.ci 4 (.ci 8 .nil)))) ?_
  refine W.loopG (fun n st=>∃ j:Nat,j≤cs.length∧n=cs.length-j∧st=⟨[(4,.bp 4 0),(8,.bp 8 0),(25,.sl (intRows .i64 cs) false),(26,.int .i64 (intRows .i64 cs).length),(27,.int .i64 j)],[(4,[.rows 4 [[.int .i64 0,.int .i64 0,.int .i64 0,.nils]] none]),(8,[.rows 4 [(repL un (cs.take j)).row] none])],[4,8]⟩)
   cs.length _ ⟨0,by omega,by omega,rfl⟩ ⟨[(4,4),(8,8)],[],[],LeG.mq (.ci 4 (.ci 8 .nil))⟩ ?_
  rintro n st ⟨j,hj,rfl,rfl⟩
  have hb0:=hrb j hj
  (refine gGo ?_;intros)
  refine boolRes_split (fun hb=>?_) (fun hb=>?_)<;>conv=>whnf
  ·have hlt:j<cs.length:=by omega
   have hg1:=intRows_get (k:=.i64) hlt
   have hsn:=repL_snoc un hlt
   have hb1:=hrb (j+1) (by omega)
   have hun0:(repL un (cs.take j)).unused=un:=repL_un un _ _
   generalize repL un (cs.take j)=R0 at *
   have hx:=hpb cs[j] (List.getElem_mem hlt)
   generalize cs[j]=x at *
   unfold repStep at hsn
   by_cases hx0:x=0
   ·rw [if_pos hx0] at hsn
    rw [hsn] at hb1
    simp only at hb1
    (refine gGo ?_;intros)
    refine rowAt_of (by simpa using hg1) ?_
    conv=>whnf
    (refine gGo ?_;intros)
    refine ⟨_,_,?_,⟨j+1,by omega,rfl,rfl⟩,[(4,4),(8,8)],[],[],LeG.mq (.ci 4 (.cons 8 rfl rfl (.refl _) ?_ .nil))⟩
    ·omega
    ·rw [hsn];rfl
   ·rw [if_neg hx0] at hsn
    rw [hsn] at hb1
    simp only at hb1
    (refine gGo ?_;intros)
    refine rowAt_of (by simpa using hg1) ?_
    conv=>whnf
    (refine gGo ?_;intros)
    refine ⟨_,_,?_,⟨j+1,by omega,rfl,rfl⟩,[(4,4),(8,8)],[],[],LeG.mq (.ci 4 (.cons 8 rfl rfl (.refl _) ?_ .nil))⟩
    ·omega
    ·rw [hsn];rfl
  ·have hje:j=cs.length:=by omega
   rw [hje,List.take_length]
   (refine gGo ?_;intros)
   (refine gM ?_;conv=>whnf)
   exact retH rfl (.norm _) rfl rfl rfl trivial
 ·have he:repE l p=(⟨0,0,0,[]⟩,validE l p):=by unfold repE;rw [if_neg h]
  rw [he]
  (refine gGo ?_;intros)
  (refine gM ?_;conv=>whnf)
  exact retH rfl (.norm _) rfl rfl rfl trivial
theorem tblRows_snoc (a:List Table) (t:Table):tblRows (a++[t])=tblRows a++[t.row]:=by simp [tblRows]
def fitC (a b:Cell):Bool:=!a.null&&(!b.null&&decide (a.text=b.text))
def sumTo (n:Nat) (f:Nat→Int):Int:=((List.range n).map f).sum
theorem sumTo_succ (n:Nat) (f:Nat→Int):sumTo (n+1) f=sumTo n f+f n:=by simp [sumTo,List.range_succ]
theorem sumTo_congr {n:Nat}{f g:Nat→Int}(h:∀ y,y<n→f y=g y):sumTo n f=sumTo n g:=by
 unfold sumTo
 rw [List.map_congr_left fun y hy=>h y (List.mem_range.1 hy)]
theorem sumTo_const (n:Nat) (c:Int):sumTo n (fun _=>c)=n*c:=by
 induction n with
 | zero=>simp [sumTo]
 | succ n ih=>rw [sumTo_succ,ih,Int.natCast_add,Int.add_mul];simp
theorem look_talR (t:Table) (own:Nat) (cnt:Nat→Int) (s:Str):∀ n,lookT (talR t own cnt n) s=sumTo n fun y=>if (!(cellT t own y).null&&decide ((cellT t own y).text=s))=true then cnt y else 0
 | 0=>rfl
 | n+1=>by
  have ih:=look_talR t own cnt s n
  have e:talR t own cnt (n+1)=if (cellT t own n).null=true then talR t own cnt n else addT (talR t own cnt n) (cellT t own n).text (cnt n):=rfl
  rw [sumTo_succ,←ih,e]
  clear e
  cases hn:(cellT t own n).null with
  | true=>simp
  | false =>
   rw [if_neg (by decide),lookT_add,Bool.not_false,Bool.true_and]
   by_cases e:s=(cellT t own n).text
   ·subst e;simp
   ·rw [if_neg e,if_neg (fun h=>e (of_decide_eq_true h).symm)];omega
section
variable (l:List Table) (p:Pth)
def tabN (i:Nat):Table:=(nodeAt l p p.steps.length i).t
def frN (i:Nat):Nat:=(nodeAt l p p.steps.length i).fr
def ownN (i:Nat):Nat:=(nodeAt l p p.steps.length i).own
def cntI (i r:Nat):Int:=(cntsN l p i).getD r 0
def fitS (k:Nat) (c:Cell):Int:=sumTo (rowsN (tabN l p k)) fun y=>if fitC c (cellT (tabN l p k) (ownN l p k) y)=true then cntI l p k y else 0
end
theorem foldl_kids {α:Type}(f g:α→Nat→α):∀ (l:List Nat) (x:α),(∀ k∈l,∀ x,f x k=g x k)→l.foldl f x=l.foldl g x
 | [],x,_=>rfl
 | k::l,x,h=>by
  rw [List.foldl_cons,List.foldl_cons,h k (by simp)]
  exact foldl_kids f g l _ fun k hk=>h k (by simp [hk])
theorem cntI_eq {l:List Table}{p:Pth}{i r:Nat}(hi:i≤p.steps.length) (hr:r<rowsN (tabN l p i)) :
  cntI l p i r=(kidsL p p.steps.length i).foldl (fun x k=>x*fitS l p k (cellT (tabN l p i) (frN l p k) r)) 1:=by
 unfold cntI cntsN
 have hr':r<rowsN (nodeAt l p p.steps.length i).t:=hr
 rw [List.getD_eq_getElem?_getD,List.getElem?_map,List.getElem?_range hr']
 simp only [Option.map_some,Option.getD_some]
 unfold cntR kidsOf
 rw [nodeAt_kids,List.foldl_map]
 refine foldl_kids _ _ _ _ fun k hk x=>?_
 obtain ⟨q,g1,g2,rfl⟩:=kidsL_mem.1 hk
 have hg:=plan_get l p (i:=q+1) (by omega)
 rw [List.getD_eq_getElem?_getD,hg]
 simp only [Option.getD_some]
 unfold mulK fitS Nod.tal
 simp only
 show (if (cellT (tabN l p i) (frN l p (q+1)) r).null=true then 0 else x*lookT (talsN l p (q+1)) (cellT (tabN l p i) (frN l p (q+1)) r).text)=_
 generalize cellT (tabN l p i) (frN l p (q+1)) r=c
 cases hn:c.null with
 | true =>
  have h0:∀ y,fitC c (cellT (tabN l p (q+1)) (ownN l p (q+1)) y)=false:=fun y=>by unfold fitC;rw [hn];rfl
  simp only [h0]
  have:=sumTo_const (rowsN (tabN l p (q+1))) 0
  rw [Int.mul_zero] at this
  simp [this]
 | false =>
  rw [if_neg (by decide)]
  congr 1
  unfold talsN
  rw [if_neg (by omega),look_talR]
  refine sumTo_congr fun y hy=>?_
  have hy':y<rowsN (nodeAt l p p.steps.length (q+1)).t:=hy
  unfold fitC cntI cntsN
  rw [hn,List.getD_eq_getElem?_getD,List.getElem?_map,List.getElem?_range hy']
  simp only [Option.map_some,Option.getD_some,Bool.not_false,Bool.true_and]
  have e:decide ((cellT (nodeAt l p p.steps.length (q+1)).t (nodeAt l p p.steps.length (q+1)).own y).text=c.text)=decide (c.text=(cellT (tabN l p (q+1)) (ownN l p (q+1)) y).text):=decide_eq_decide.2 eq_comm
  rw [e];rfl
end Go.Sx.Sp
namespace Go.Sx.Sp
open Go Go.Sx Go.Proofs
attribute [local irreducible] GoodW famL
theorem hasU_ins (U:Nat→Option (List Str)) (k:Nat) (t:Str) (k':Nat) (s:Str):hasU (insU U k t) k' s=true↔hasU U k' s=true∨(k'=k∧s=t):=by
 unfold hasU insU
 by_cases e:k'=k
 ·subst e
  simp only [if_true]
  cases hU:U k' with
  | none =>
   have:=addS_mem (l:=[]) (s:=t) (u:=s)
   simp at this
   simp [this]
  | some l =>
   have:=addS_mem (l:=l) (s:=t) (u:=s)
   simp [this]
 ·simp [e]
theorem hasU_kids (R:List Nod) (n:Nod) (r k:Nat) (s:Str) (U:Nat→Option (List Str)):∀ j,j≤n.kids.length→(hasU (kidsU R n r U j) k s=true↔hasU U k s=true∨(k∈n.kids.take j∧s=(cellT n.t (R.getD k n).fr r).text))
 | 0,_=>by simp [kidsU]
 | j+1,h=>by
  have ih:=hasU_kids R n r k s U j (by omega)
  rw [kidsU_snoc R n r U (show j<n.kids.length by omega),hasU_ins,ih,List.take_succ_eq_append_getElem (show j<n.kids.length by omega),List.mem_append]
  constructor
  ·rintro ((h1 | h1) | ⟨rfl,h1⟩)
   ·exact .inl h1
   ·exact .inr ⟨.inl h1.1,h1.2⟩
   ·exact .inr ⟨.inr (by simp),h1⟩
  ·rintro (h1 | ⟨h1 | h1,h2⟩)
   ·exact .inl (.inl h1)
   ·exact .inl (.inr ⟨h1,h2⟩)
   ·have h1:=List.mem_singleton.1 h1
    subst h1
    exact .inr ⟨rfl,h2⟩
section
variable (l:List Table) (p:Pth)
def setsN (i:Nat):Nat→Option (List Str):=(nodesU (planN l p) i).2
def nodN (i:Nat):Nod:={ nodeAt l p p.steps.length i with done:=some (cntsN l p i,talsN l p i) }
def usedB (i r:Nat):Bool:=!skipR (setsN l p i) i (nodN l p i) (cntsN l p i) r
def unuN (i:Nat):Int:=sumTo (rowsN (tabN l p i)) fun r=>if usedB l p i r=true then 0 else 1
end
section
variable {l:List Table}{p:Pth}
theorem skipR_congr {U U':Nat→Option (List Str)}{i:Nat}{n:Nod}{c:List Int}{r:Nat}(h:∀ s,hasU U i s=true↔hasU U' i s=true):skipR U i n c r=skipR U' i n c r:=by
 unfold skipR
 have:hasU U i (cellT n.t n.own r).text=hasU U' i (cellT n.t n.own r).text:=Bool.eq_iff_iff.2 (h _)
 rw [this]
theorem nodN_kids (i:Nat):(nodN l p i).kids=kidsL p p.steps.length i:=nodeAt_kids l p _ i
theorem rowsU_char {i:Nat}(hi:i≤p.steps.length):∀ r,(rowsU (planN l p) i (nodN l p i) (cntsN l p i) (setsN l p i) r).unused=sumTo r (fun x=>if usedB l p i x=true then 0 else 1) ∧
  ∀ k s,hasU (rowsU (planN l p) i (nodN l p i) (cntsN l p i) (setsN l p i) r).U k s=true↔hasU (setsN l p i) k s=true∨(k∈kidsL p p.steps.length i∧∃ x,x<r∧usedB l p i x=true∧s=(cellT (tabN l p i) (frN l p k) x).text)
 | 0=>by
  refine ⟨rfl,fun k s=>?_⟩
  simp [rowsU]
 | r+1=>by
  obtain ⟨ih1,ih2⟩:=rowsU_char hi r
  have hii:∀ s,hasU (rowsU (planN l p) i (nodN l p i) (cntsN l p i) (setsN l p i) r).U i s=true↔hasU (setsN l p i) i s=true:=fun s=>by
   rw [ih2]
   constructor
   ·rintro (h | ⟨h,_⟩)
    ·exact h
    ·obtain ⟨q,g1,g2,g3⟩:=kidsL_mem.1 h
     have:=parI_le p (i:=q) (by omega)
     omega
   ·exact .inl
  rw [rowsU_snoc,sumTo_succ,←ih1]
  unfold rowU
  rw [skipR_congr hii]
  have hu:usedB l p i r=!skipR (setsN l p i) i (nodN l p i) (cntsN l p i) r:=rfl
  cases hs:skipR (setsN l p i) i (nodN l p i) (cntsN l p i) r with
  | true =>
   rw [hs] at hu
   have hu:usedB l p i r=false:=hu
   rw [if_pos rfl,if_neg (by rw [hu];decide)]
   refine ⟨rfl,fun k s=>?_⟩
   rw [show (US.mk ((rowsU (planN l p) i (nodN l p i) (cntsN l p i) (setsN l p i) r).unused+1) (rowsU (planN l p) i (nodN l p i) (cntsN l p i) (setsN l p i) r).U).U=(rowsU (planN l p) i (nodN l p i) (cntsN l p i) (setsN l p i) r).U from rfl,ih2]
   constructor
   ·rintro (h | ⟨h1,x,h2,h3⟩)
    ·exact .inl h
    ·exact .inr ⟨h1,x,by omega,h3⟩
   ·rintro (h | ⟨h1,x,h2,h3,h4⟩)
    ·exact .inl h
    ·have:x≠r:=fun e=>by subst e;rw [hu] at h3;cases h3
     exact .inr ⟨h1,x,by omega,h3,h4⟩
  | false =>
   rw [hs] at hu
   have hu:usedB l p i r=true:=hu
   rw [if_neg (by decide),if_pos hu]
   refine ⟨by simp,fun k s=>?_⟩
   rw [show (US.mk (rowsU (planN l p) i (nodN l p i) (cntsN l p i) (setsN l p i) r).unused (kidsU (planN l p) (nodN l p i) r (rowsU (planN l p) i (nodN l p i) (cntsN l p i) (setsN l p i) r).U (nodN l p i).kids.length)).U=kidsU (planN l p) (nodN l p i) r (rowsU (planN l p) i (nodN l p i) (cntsN l p i) (setsN l p i) r).U (nodN l p i).kids.length from rfl,
    hasU_kids _ _ _ _ _ _ _ (Nat.le_refl _),ih2,List.take_length,nodN_kids]
   have hfr:k∈kidsL p p.steps.length i→(cellT (nodN l p i).t ((planN l p).getD k (nodN l p i)).fr r).text=(cellT (tabN l p i) (frN l p k) r).text:=fun hk=>by
    obtain ⟨q,g1,g2,rfl⟩:=kidsL_mem.1 hk
    have hg:=plan_get l p (i:=q+1) (by omega)
    rw [List.getD_eq_getElem?_getD,hg];rfl
   constructor
   ·rintro ((h | ⟨h1,x,h2,h3⟩) | ⟨h1,h2⟩)
    ·exact .inl h
    ·exact .inr ⟨h1,x,by omega,h3⟩
    ·exact .inr ⟨h1,r,by omega,hu,by rw [h2,hfr h1]⟩
   ·rintro (h | ⟨h1,x,h2,h3,h4⟩)
    ·exact .inl (.inl h)
    ·by_cases e:x=r
     ·subst e
      exact .inr ⟨h1,by rw [hfr h1];exact h4⟩
     ·exact .inl (.inr ⟨h1,x,by omega,h3,h4⟩)
theorem nodesU_step {i:Nat}(hi:i≤p.steps.length):nodesU (planN l p) (i+1)=(if 0<i then (nodesU (planN l p) i).1++[unuN l p i] else (nodesU (planN l p) i).1,(rowsU (planN l p) i (nodN l p i) (cntsN l p i) (setsN l p i) (rowsN (tabN l p i))).U):=by
 have hg:(planN l p)[i]?=some (nodN l p i):=plan_get l p hi
 have hc:cntD (nodN l p i)=cntsN l p i:=rfl
 have hlen:(cntsN l p i).length=rowsN (tabN l p i):=cntsN_len l p i
 have hu:=(rowsU_char (l:=l) hi (rowsN (tabN l p i))).1
 simp only [nodesU,hg,hc,hlen]
 unfold unuN
 rw [←hu];rfl
theorem setsN_char:∀ i,i≤p.steps.length+1→∀ q,q<p.steps.length→∀ s,hasU (setsN l p i) (q+1) s=true↔parI p q<i∧∃ x,x<rowsN (tabN l p (parI p q))∧usedB l p (parI p q) x=true∧s=(cellT (tabN l p (parI p q)) (frN l p (q+1)) x).text
 | 0,_,q,hq,s=>by
  have:setsN l p 0=fun _=>none:=rfl
  rw [this]
  simp [hasU]
 | i+1,hi,q,hq,s=>by
  have ih:=setsN_char i (by omega) q hq s
  have hs:setsN l p (i+1)=(rowsU (planN l p) i (nodN l p i) (cntsN l p i) (setsN l p i) (rowsN (tabN l p i))).U:=by
   show (nodesU (planN l p) (i+1)).2=_
   rw [nodesU_step (by omega)]
  rw [hs,(rowsU_char (l:=l) (p:=p) (by omega) _).2,ih]
  constructor
  ·rintro (⟨h1,h2⟩ | ⟨h1,h2⟩)
   ·exact ⟨by omega,h2⟩
   ·obtain ⟨q',g1,g2,g3⟩:=kidsL_mem.1 h1
    have:q'=q:=by omega
    subst this
    subst g2
    exact ⟨by omega,h2⟩
  ·rintro ⟨h1,h2⟩
   by_cases e:parI p q=i
   ·subst e
    exact .inr ⟨kidsL_mem.2 ⟨q,hq,rfl,rfl⟩,h2⟩
   ·exact .inl ⟨by omega,h2⟩
theorem nodesU_list:∀ i,i≤p.steps.length→(nodesU (planN l p) (i+1)).1=(List.range i).map fun q=>unuN l p (q+1)
 | 0,h=>by rw [nodesU_step (Nat.zero_le _)];rfl
 | i+1,h=>by
  have ih:=nodesU_list i (by omega)
  rw [nodesU_step h,List.range_succ,List.map_append,←ih]
  simp
theorem foldl_ne (f:Nat→Int):∀ (l:List Nat) (x:Int),l.foldl (fun x k=>x*f k) x≠0↔x≠0∧∀ k∈l,f k≠0
 | [],x=>by simp
 | k::l,x=>by
  rw [List.foldl_cons,foldl_ne f l,Int.mul_ne_zero_iff]
  simp [and_assoc]
theorem cntI_ne {i r:Nat}(hi:i≤p.steps.length) (hr:r<rowsN (tabN l p i)):cntI l p i r≠0↔∀ q,q<p.steps.length→parI p q=i→fitS l p (q+1) (cellT (tabN l p i) (frN l p (q+1)) r)≠0:=by
 rw [cntI_eq hi hr,foldl_ne (fun k=>fitS l p k (cellT (tabN l p i) (frN l p k) r))]
 constructor
 ·rintro ⟨_,h⟩ q hq rfl
  exact h _ (kidsL_mem.2 ⟨q,hq,rfl,rfl⟩)
 ·intro h
  refine ⟨by decide,fun k hk=>?_⟩
  obtain ⟨q,g1,g2,rfl⟩:=kidsL_mem.1 hk
  exact h q g1 g2
theorem fitS_null {k:Nat}{c:Cell}(h:c.null=true):fitS l p k c=0:=by
 unfold fitS
 have h0:∀ y,fitC c (cellT (tabN l p k) (ownN l p k) y)=false:=fun y=>by unfold fitC;rw [h];rfl
 simp only [h0]
 have:=sumTo_const (rowsN (tabN l p k)) 0
 rw [Int.mul_zero] at this
 simp [this]
theorem usedB_zero (r:Nat):usedB l p 0 r=true↔cntI l p 0 r≠0:=by
 unfold usedB skipR
 simp [cntI]
theorem usedB_cnt {i r:Nat}(h:usedB l p i r=true):cntI l p i r≠0:=by
 unfold usedB skipR at h
 intro h0
 unfold cntI at h0
 rw [h0] at h
 simp at h
theorem usedB_succ {q y:Nat}(hq:q<p.steps.length):usedB l p (q+1) y=true↔cntI l p (q+1) y≠0∧∃ x,x<rowsN (tabN l p (parI p q))∧usedB l p (parI p q) x=true∧fitC (cellT (tabN l p (parI p q)) (frN l p (q+1)) x) (cellT (tabN l p (q+1)) (ownN l p (q+1)) y)=true:=by
 have hc:=setsN_char (l:=l) (p:=p) (q+1) (by omega) q hq (cellT (tabN l p (q+1)) (ownN l p (q+1)) y).text
 have hpar:=parI_le p (i:=q) (by omega)
 have e:usedB l p (q+1) y=(!(decide (cntI l p (q+1) y=0)||(cellT (tabN l p (q+1)) (ownN l p (q+1)) y).null||!hasU (setsN l p (q+1)) (q+1) (cellT (tabN l p (q+1)) (ownN l p (q+1)) y).text)):=by
  unfold usedB skipR
  rw [decide_eq_true (show 0<q+1 by omega),Bool.true_and,←Bool.or_assoc]
  rfl
 rw [e]
 constructor
 ·intro h
  simp only [Bool.not_or,Bool.and_eq_true,Bool.not_eq_true',decide_eq_false_iff_not,Bool.not_not] at h
  obtain ⟨⟨h1,h2⟩,h3⟩:=h
  obtain ⟨_,x,g1,g2,g3⟩:=hc.1 h3
  refine ⟨h1,x,g1,g2,?_⟩
  have hne:=(cntI_ne (by omega) g1).1 (usedB_cnt g2) q hq rfl
  have hnn:(cellT (tabN l p (parI p q)) (frN l p (q+1)) x).null=false:=by
   cases hn:(cellT (tabN l p (parI p q)) (frN l p (q+1)) x).null with
   | false=>rfl
   | true=>exact absurd (fitS_null hn) hne
  unfold fitC
  rw [hnn,h2,decide_eq_true g3.symm];rfl
 ·rintro ⟨h1,x,g1,g2,g3⟩
  unfold fitC at g3
  simp only [Bool.and_eq_true,Bool.not_eq_true',decide_eq_true_eq] at g3
  have h3:=hc.2 ⟨by omega,x,g1,g2,g3.2.2.symm⟩
  rw [h3,g3.2.1,decide_eq_false h1];rfl
end
end Go.Sx.Sp
namespace Go.Sx.Sp
open Go Go.Sx Go.Proofs
attribute [local irreducible] GoodW famL
end Go.Sx.Sp
namespace Go.Sx.Sp
open Go Go.Sx Go.Proofs Go.RowKit
attribute [local irreducible] GoodW famL
theorem arg_ints {n:Nat}{u:V}(hs:argShape T (n+2) 22 u):∃ l:List Int,u=.sl (intRows .i64 l) false:=by
 obtain ⟨rows,hr,_,h⟩:=shape_sl (T:=T) (t:=22) rfl (argShape_one (T:=T) (t:=22) rfl rfl hs)
 obtain ⟨l,rfl,_⟩:=rows_map (f:=fun x:Int=>[V.int .i64 x]) (p:=fun _=>True) (rows:=rows) fun r hr=>by
  obtain ⟨x,rfl,_⟩:=shape_int (T:=T) (t:=3) rfl (h r hr)
  exact ⟨x,rfl,trivial⟩
 cases hr
 exact ⟨l,rfl⟩
theorem arg_int {n:Nat}{u:V}(hs:argShape T (n+1) 3 u):∃ x:Int,u=.int .i64 x∧-9223372036854775808≤x∧x≤9223372036854775807:=by
 obtain ⟨x,h,h1,h2⟩:=shape_int (T:=T) (t:=3) rfl (argShape_one (T:=T) (t:=3) rfl rfl hs)
 cases h
 rw [show IntKind.i64.min=-9223372036854775808 by decide] at h1
 rw [show IntKind.i64.max=9223372036854775807 by decide] at h2
 exact ⟨x,rfl,h1,h2⟩
end Go.Sx.Sp
namespace Go.Sx.Sp
open Go Go.Sx Go.Proofs
attribute [local irreducible] GoodW famL
noncomputable def wordF (ws:List Str) (l:List Int) (p:Nat):Str:=if h:ws≠[]∧ws.length≤4611686018427387904∧p≤l.length then Classical.choose (word_spec l p ws h.1 h.2.1 h.2.2) else []
theorem wordF_spec {ws:List Str}{l:List Int}{p:Nat}(h1:ws≠[]) (h2:ws.length≤4611686018427387904) (h:p≤l.length):wordF ws l p∈ws∧Spec Tryz.prog 18 [.bp 0 0,.sl (strRows ws) false] [(0,diceB l p)] (.str (wordF ws l p)) [(0,diceB l (nextP l p))]:=by
 have:=Classical.choose_spec (word_spec l p ws h1 h2 h)
 simp only [wordF,dif_pos (show ws≠[]∧ws.length≤4611686018427387904∧p≤l.length from ⟨h1,h2,h⟩)]
 exact this
def seqF {α:Type}(step:Nat→Nat→α×Nat):Nat→Nat→Nat→List α×Nat
 | 0,_,p=>([],p)
 | n+1,i,p=>((step i p).1::(seqF step n (i+1) (step i p).2).1,(seqF step n (i+1) (step i p).2).2)
theorem seqF_len {α:Type}(step:Nat→Nat→α×Nat):∀ n i p,(seqF step n i p).1.length=n
 | 0,_,_=>rfl
 | n+1,i,p=>by simp only [seqF,List.length_cons,seqF_len step n]
theorem seqF_ok {α:Type}{step:Nat→Nat→α×Nat}{L:Nat}{Q:Nat→α→Prop}(h:∀ i p,p≤L→Q i (step i p).1∧(step i p).2≤L):∀ n i p,p≤L→(∀ j (hj:j<(seqF step n i p).1.length),Q (i+j) (seqF step n i p).1[j])∧(seqF step n i p).2≤L
 | 0,_,p,hp=>⟨fun j hj=>(by cases hj),hp⟩
 | n+1,i,p,hp=>by
  obtain ⟨h1,h2⟩:=h i p hp
  obtain ⟨h3,h4⟩:=seqF_ok h n (i+1) _ h2
  refine ⟨fun j hj=>?_,h4⟩
  cases j with
  | zero=>exact h1
  | succ j =>
   have:=h3 j (by simp only [seqF,List.length_cons] at hj;omega)
   rw [show i+(j+1)=i+1+j by omega]
   exact this
def jCells:List Str:=[[97],[98],[99],[97]]
def jNames:List Str:=[[105,100],[107,101,121],[118]]
noncomputable def cellJ (l:List Int) (p:Nat):Cell×Nat:=(if nextV l (nextP l p) 9=1 then ⟨true,[]⟩ else ⟨false,wordF jCells l p⟩,nextP l (nextP l p))
noncomputable def colJ (l:List Int) (rows p:Nat):Column×Nat:=(⟨wordF jNames l p,(seqF (fun _ q=>cellJ l q) rows 0 (nextP l p)).1⟩,(seqF (fun _ q=>cellJ l q) rows 0 (nextP l p)).2)
def rowsJ (l:List Int) (p:Nat):Nat:=1+(nextV l p 5).toNat
def colsJ (l:List Int) (p:Nat):Nat:=1+(nextV l (nextP l p) 2).toNat
noncomputable def tabJ (l:List Int) (k p:Nat):Table×Nat:=(⟨(k+1:Nat),[106],(seqF (fun _ q=>colJ l (rowsJ l p) q) (colsJ l p) 0 (nextP l (nextP l p))).1⟩,(seqF (fun _ q=>colJ l (rowsJ l p) q) (colsJ l p) 0 (nextP l (nextP l p))).2)
def tabsJ (l:List Int) (most:Int) (p:Nat):Nat:=2+(nextV l p (most-1)).toNat
noncomputable def joinedF (l:List Int) (most:Int) (p:Nat):List Table×Nat:=seqF (fun k q=>tabJ l k q) (tabsJ l most p) 0 (nextP l p)
structure CellJ (c:Cell):Prop where
 ok:c=⟨true,[]⟩∨(c.null=false∧c.text∈jCells)
structure ColJ (n:Nat) (c:Column):Prop where
 name:c.name∈jNames
 len:c.cells.length=n
 cells:∀ x∈c.cells,CellJ x
structure TabJ (k:Nat) (t:Table):Prop where
 id:t.id=(k+1:Nat)
 name:t.name=[106]
 few:1≤t.cols.length∧t.cols.length≤2
 cols:∃ n,1≤n∧n≤5∧∀ c∈t.cols,ColJ n c
theorem cellJ_ok {l:List Int}{p:Nat}(hp:p≤l.length):CellJ (cellJ l p).1∧(cellJ l p).2≤l.length:=by
 refine ⟨⟨?_⟩,nextP_le (nextP_le hp)⟩
 unfold cellJ
 simp only
 split
 ·exact .inl rfl
 ·exact .inr ⟨rfl,(wordF_spec (ws:=jCells) (by decide) (by decide) hp).1⟩
theorem colJ_ok {l:List Int}{n p:Nat}(hp:p≤l.length):ColJ n (colJ l n p).1∧(colJ l n p).2≤l.length:=by
 obtain ⟨h1,h2⟩:=seqF_ok (step:=fun _ q=>cellJ l q) (Q:=fun _ c=>CellJ c) (fun i q hq=>cellJ_ok hq) n 0 _ (nextP_le hp)
 refine ⟨⟨(wordF_spec (ws:=jNames) (by decide) (by decide) hp).1,seqF_len _ _ _ _,fun x hx=>?_⟩,h2⟩
 obtain ⟨j,hj,rfl⟩:=List.getElem_of_mem hx
 exact h1 j hj
theorem tabJ_ok {l:List Int}{k p:Nat}(hp:p≤l.length):TabJ k (tabJ l k p).1∧(tabJ l k p).2≤l.length:=by
 obtain ⟨h1,h2⟩:=seqF_ok (step:=fun _ q=>colJ l (rowsJ l p) q) (Q:=fun _ c=>ColJ (rowsJ l p) c) (fun i q hq=>colJ_ok hq) (colsJ l p) 0 _ (nextP_le (nextP_le hp))
 have hr:=nextV_range l p (n:=5) (by omega)
 have hc:=nextV_range l (nextP l p) (n:=2) (by omega)
 refine ⟨⟨rfl,rfl,?_,rowsJ l p,?_,?_,fun c hx=>?_⟩,h2⟩
 ·show 1≤(seqF (fun _ q=>colJ l (rowsJ l p) q) (colsJ l p) 0 (nextP l (nextP l p))).1.length∧(seqF (fun _ q=>colJ l (rowsJ l p) q) (colsJ l p) 0 (nextP l (nextP l p))).1.length≤2
  rw [seqF_len]
  unfold colsJ;omega
 ·unfold rowsJ;omega
 ·unfold rowsJ;omega
 ·obtain ⟨j,hj,rfl⟩:=List.getElem_of_mem hx
  exact h1 j hj
theorem joined_ok {l:List Int}{most:Int}{p:Nat}(hm:2≤most∧most≤100) (hp:p≤l.length):(2≤(joinedF l most p).1.length∧(joinedF l most p).1.length≤most.toNat)∧(∀ k (hk:k<(joinedF l most p).1.length),TabJ k (joinedF l most p).1[k])∧(joinedF l most p).2≤l.length:=by
 obtain ⟨h1,h2⟩:=seqF_ok (step:=fun k q=>tabJ l k q) (Q:=TabJ) (fun i q hq=>tabJ_ok hq) (tabsJ l most p) 0 _ (nextP_le hp)
 have hr:=nextV_range l p (n:=most-1) (by omega)
 refine ⟨?_,fun k hk=>?_,h2⟩
 ·unfold joinedF
  rw [seqF_len]
  unfold tabsJ;omega
 ·have:=h1 k hk
  rw [Nat.zero_add] at this
  exact this
theorem cellRows_snoc (a:List Cell) (c:Cell):cellRows (a++[c])=cellRows a++[c.row]:=by simp [cellRows]
section
variable (l:List Table) (p:Pth)
def stepFits (q x y:Nat):Bool:=fitC (cellT (tabN l p (parI p q)) (frN l p (q+1)) x) (cellT (tabN l p (q+1)) (ownN l p (q+1)) y)
end
section
variable {l:List Table}{p:Pth}
end
end Go.Sx.Sp
namespace Go.Sx.Sp
open Go Go.Sx Go.Proofs
attribute [local irreducible] GoodW famL
theorem ascB_from:∀ (l:List Table) (k:Nat),(∀ j (hj:j<l.length),l[j].id=((k+j:Nat):Int))→ascB l=true
 | [],_,_=>rfl
 | [a],_,_=>rfl
 | a::b::r,k,h=>by
  have h0:=h 0 (by simp)
  have h1:=h 1 (by simp)
  have ih:=ascB_from (b::r) (k+1) (fun j hj=>by
   have:=h (j+1) (by simp at hj ⊢;omega)
   simp only [List.getElem_cons_succ] at this
   rw [this]
   congr 1;omega)
  simp only [List.getElem_cons_zero,List.getElem_cons_succ] at h0 h1
  simp only [ascB,ih,Bool.and_true,decide_eq_true_eq]
  omega
theorem validB_J {k:Nat}{t:Table}(h:TabJ k t) (hk:k<100):validB t=true:=by
 obtain ⟨n,n1,n2,hc⟩:=h.cols
 have hrows:rowsN t=n:=by
  unfold rowsN
  have hf:=h.few
  cases e:t.cols with
  | nil=>rw [e] at hf;simp at hf
  | cons c cs=>exact (hc c (by rw [e];simp)).len
 have hid:=h.id
 have hf:=h.few
 unfold validB
 have h1:headB t=true:=by
  unfold headB
  have a1:decide ((0:Int)≤t.id∧t.id≤1073741824)=true:=decide_eq_true ⟨by omega,by omega⟩
  have a2:fineB t.name=true:=by rw [h.name];decide +kernel
  rw [a1,a2,decide_eq_true (show t.cols.length≤64 by omega),decide_eq_true (show rowsN t≤4096 by omega)];rfl
 have h2:t.cols.any (badCol t)=false:=by
  rw [List.any_eq_false]
  intro c hcm
  have g:=hc c hcm
  have b1:∀ s∈jNames,fineB s=true:=by decide +kernel
  have b2:∀ s∈jCells,fineB s=true:=by decide +kernel
  have b3:fineB []=true:=by decide +kernel
  unfold badCol
  have b4:c.cells.all cellB=true:=by
   rw [List.all_eq_true]
   intro x hx
   rcases (g.cells x hx).ok with rfl | ⟨h3,h4⟩
   ·decide +kernel
   ·unfold cellB
    rw [b2 _ h4,h3];rfl
  rw [b1 _ g.name,b4,g.len,hrows]
  simp
 rw [h1,h2];rfl
theorem listB_J {l:List Table}(h:∀ k (hk:k<l.length),TabJ k l[k]) (hl:l.length≤100):listB l=true:=by
 unfold listB
 have h1:ascB l=true:=ascB_from l 1 (fun j hj=>by rw [(h j hj).id];congr 1;omega)
 have h2:l.all validB=true:=by
  rw [List.all_eq_true]
  intro t ht
  obtain ⟨k,hk,rfl⟩:=List.getElem_of_mem ht
  exact validB_J (h k hk) (by omega)
 rw [h1,h2,decide_eq_true (show l.length≤1024 by omega)];rfl
section
variable (A B C:List Column) (a b c e:Nat)
end
section
variable {A B C:List Column}{a b c e:Nat}
end
end Go.Sx.Sp
namespace Go.Sx.Sp
open Go Go.Sx Go.Proofs
attribute [local irreducible] GoodW famL
end Go.Sx.Sp
