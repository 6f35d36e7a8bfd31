/- Reports of paths. -/
import Derived.Test.YtiokcnmokoonkaaGreatDoorJThree
import Derived.Test.YtiokcnmokoonkaaGreatDoorSxFour
set_option linter.unusedVariables false
set_option linter.unusedSimpArgs false
namespace Go.Sx.Sp
open Go Go.Sx Go.Proofs
attribute [local irreducible] GoodW famL
def repStep (r:Rep) (n:Int):Rep:=⟨r.rows + n,if n=0 then r.lost + 1 else r.lost,max r.most n,r.unused⟩
def repL (un:List Int) (cs:List Int):Rep:=cs.foldl repStep ⟨0,0,0,un⟩
def repE (l:List Table) (p:Pth):Rep × Int:=if validE l p=0 then (repL (nodesU (planN l p) (p.steps.length + 1)).1 (cntsN l p 0),0) else (⟨0,0,0,[]⟩,validE l p)
theorem repL_snoc (un:List Int) {cs:List Int} {j:Nat} (h:j < cs.length):repL un (cs.take (j + 1))=repStep (repL un (cs.take j)) cs[j]:=by
 unfold repL
 rw [List.take_succ_eq_append_getElem h,List.foldl_append]; rfl
end Go.Sx.Sp
namespace Go.Sx.Sp
open Go Go.Sx Go.Proofs
attribute [local irreducible] GoodW famL
theorem plan_bound {l:List Table} {p:Pth} (h:validE l p=0) {i:Nat} (hi:i ≤ p.steps.length):∀ x ∈ cntsN l p i,0 ≤ x ∧ x ≤ 1125899906842624:=by
 have hlen:=nodesN_len l p p.steps.length (Nat.le_refl _)
 obtain ⟨k,hk⟩:∃ k,k + i=p.steps.length:=⟨p.steps.length - i,by omega⟩
 have hnx:(runD (nodesN l p p.steps.length) (p.steps.length + 1) k)[i]? = some (nodeAt l p p.steps.length i):=by
  obtain ⟨d,h1,_,h3⟩:=runD_shape hlen k (by omega) i _ (nodesN_get l p (Nat.le_refl _) hi)
  rw [h1,h3 (by omega)]
 have hst:∀ q,i ≤ q → (planN l p)[q]? = (runD (nodesN l p p.steps.length) (p.steps.length + 1) (k + 1))[q]?:=fun q hq=>by
  unfold planN
  have:=run_stable (nodesN l p p.steps.length) (p.steps.length + 1) q (k + 1) i (by omega) (by omega)
  rw [show k + 1 + i=p.steps.length + 1 by omega] at this
  exact this
 have hst2:∀ q,i < q → (planN l p)[q]? = (runD (nodesN l p p.steps.length) (p.steps.length + 1) k)[q]?:=fun q hq=>by
  rw [hst q (by omega)]
  exact run_stable (nodesN l p p.steps.length) (p.steps.length + 1) q k 1 (by omega) (by omega)
 have hko:kidsOf (runD (nodesN l p p.steps.length) (p.steps.length + 1) k) (nodeAt l p p.steps.length i)=kidsOf (planN l p) (nodeAt l p p.steps.length i):=by
  refine kidsOf_congr fun q hq=>?_
  rw [nodeAt_kids] at hq
  obtain ⟨q',g1,g2,rfl⟩:=kidsL_mem.1 hq
  have:=parI_le p (i:=q') (by omega)
  exact (hst2 _ (by omega)).symm
 have hc:=cntOK_of h k (by omega)
 rw [show p.steps.length + 1 - 1 - k=i by omega] at hc
 have hb:=hc.bnd
 obtain ⟨g1,g2⟩:=List.getElem?_eq_some_iff.1 hnx
 rw [g2] at hb
 intro x hx
 unfold cntsN at hx
 obtain ⟨r,hr,rfl⟩:=List.mem_map.1 hx
 have:=hb r (List.mem_range.1 hr) _ (Nat.le_refl _)
 rw [show (nodeAt l p p.steps.length i).kids.length=(kidsOf (runD (nodesN l p p.steps.length) (p.steps.length + 1) k) (nodeAt l p p.steps.length i)).length by simp [kidsOf],List.take_length,hko] at this
 exact this
theorem repL_bound (un:List Int) (M:Int) (hM:0 ≤ M):∀ (cs:List Int),(∀ x ∈ cs,0 ≤ x ∧ x ≤ M) → ∀ j,j ≤ cs.length → (0 ≤ (repL un (cs.take j)).rows ∧ (repL un (cs.take j)).rows ≤ j * M) ∧ (0 ≤ (repL un (cs.take j)).lost ∧ (repL un (cs.take j)).lost ≤ j) ∧ (0 ≤ (repL un (cs.take j)).most ∧ (repL un (cs.take j)).most ≤ M)
 | cs,h,0,_=>by simp [repL]; exact hM
 | cs,h,j + 1,hj=>by
  have ih:=repL_bound un M hM cs h j (by omega)
  have hx:=h cs[j] (List.getElem_mem (by omega))
  rw [repL_snoc un (show j < cs.length by omega)]
  have e:((j + 1:Nat):Int) * M=j * M + M:=by rw [Int.natCast_add,Int.add_mul]; simp
  rw [e]
  unfold repStep
  simp only
  refine ⟨by omega,?_,by omega⟩
  split <;> omega
theorem repL_un (un:List Int):∀ (cs:List Int) (r:Rep),(cs.foldl repStep r).unused=r.unused
 | [],_=>rfl
 | c :: cs,r=>by rw [List.foldl_cons,repL_un un cs]; rfl
set_option maxHeartbeats 8000000 in
theorem report_spec (l:List Table) (p:Pth):Spec Tryz.prog 38 [.sl (tblRows l) false,.agg p.row] [] (.tup [.agg (repE l p).1.row,.int .i64 (repE l p).2]) []:=by
 have sp1:=validP_spec l p
 refine gEn env Tryz.func38 fun Γ hN hK hML=>?_
 (refine gGo ?_; intros)
 (refine gPC (sp1) ?_; conv=>whnf)
 by_cases h:validE l p=0
 ·have he:repE l p=(repL (nodesU (planN l p) (p.steps.length + 1)).1 (cntsN l p 0),0):=by unfold repE; rw [if_pos h]
  have sp2:=new_spec l p (pathOK_of h) (cntOK_of h)
  have hlen:=planN_len l p
  have hg:=plan_get l p (Nat.zero_le p.steps.length)
  obtain ⟨h0,h1⟩:=List.getElem?_eq_some_iff.1 hg
  have hv:=valid_path h
  have hrows:(cntsN l p 0).length ≤ 4096:=by
   rw [cntsN_len]; exact (tabOf_rows hv.1 _).1
  have sp3:=each_spec (planN l p) (p.steps.length + 1) hlen.symm h0 (by omega) (d:=(cntsN l p 0,talsN l p 0)) (by rw [h1]) hrows
  have sp4:=unused_spec (planN l p) (p.steps.length + 1) hlen.symm (by omega) (planOK h)
  have hpb:=plan_bound h (Nat.zero_le _)
  rw [he]
  rw [h]
  generalize (nodesU (planN l p) (p.steps.length + 1)).1=un at *
  generalize cntsN l p 0=cs at *
  have hrb:=repL_bound un 1125899906842624 (by decide) cs hpb
  have hcl:=intRows_len .i64 cs
  (refine gGo ?_; intros)
  (refine gCA [] [(0,15),(1,90)] [] (sp2) ?_; conv=>whnf)
  (refine gGo ?_; intros)
  (refine gCA [(0,15),(1,90)] [] [] (sp4) ?_; conv=>whnf)
  (refine gGo ?_; intros)
  (refine gCA [(0,15),(1,90)] [] [] (sp3) ?_; conv=>whnf)
  (refine gGo ?_; intros)
  refine W.leG (mp:=[(3,3),(4,4),(8,8)]) (bo:=[]) (st':=⟨[(4,.bp 4 0),(8,.bp 8 0),(25,.sl (intRows .i64 cs) false),(26,.int .i64 (intRows .i64 cs).length),(27,.int .i64 0)],[(3,[.rows 2 [p.row] none]),(4,[.rows 4 [[.int .i64 0,.int .i64 0,.int .i64 0,.nils]] none]),(8,[.rows 4 [[.int .i64 0,.int .i64 0,.int .i64 0,.sl (intRows .i64 un) false]] none])],[3,4,8]⟩)
   (LeG.mq (.ci 3 (.ci 4 (.ci 8 .nil)))) ?_
  refine W.loopG (fun n st=>∃ j:Nat,j ≤ cs.length ∧ n=cs.length - j ∧ st=⟨[(4,.bp 4 0),(8,.bp 8 0),(25,.sl (intRows .i64 cs) false),(26,.int .i64 (intRows .i64 cs).length),(27,.int .i64 j)],[(4,[.rows 4 [[.int .i64 0,.int .i64 0,.int .i64 0,.nils]] none]),(8,[.rows 4 [(repL un (cs.take j)).row] none])],[4,8]⟩)
   cs.length _ ⟨0,by omega,by omega,rfl⟩ ⟨[(4,4),(8,8)],[],[],LeG.mq (.ci 4 (.ci 8 .nil))⟩ ?_
  rintro n st ⟨j,hj,rfl,rfl⟩
  have hb0:=hrb j hj
  (refine gGo ?_; intros)
  refine boolRes_split (fun hb=>?_) (fun hb=>?_) <;> conv=>whnf
  ·have hlt:j < cs.length:=by omega
   have hg1:=intRows_get (k:=.i64) hlt
   have hsn:=repL_snoc un hlt
   have hb1:=hrb (j + 1) (by omega)
   have hun0:(repL un (cs.take j)).unused=un:=repL_un un _ _
   generalize repL un (cs.take j)=R0 at *
   have hx:=hpb cs[j] (List.getElem_mem hlt)
   generalize cs[j]=x at *
   unfold repStep at hsn
   by_cases hx0:x=0
   ·rw [if_pos hx0] at hsn
    rw [hsn] at hb1
    simp only at hb1
    (refine gGo ?_; intros)
    refine rowAt_of (by simpa using hg1) ?_
    conv=>whnf
    (refine gGo ?_; intros)
    refine ⟨_,_,?_,⟨j + 1,by omega,rfl,rfl⟩,[(4,4),(8,8)],[],[],LeG.mq (.ci 4 (.cons 8 rfl rfl (.refl _) ?_ .nil))⟩
    ·omega
    ·rw [hsn]; rfl
   ·rw [if_neg hx0] at hsn
    rw [hsn] at hb1
    simp only at hb1
    (refine gGo ?_; intros)
    refine rowAt_of (by simpa using hg1) ?_
    conv=>whnf
    (refine gGo ?_; intros)
    refine ⟨_,_,?_,⟨j + 1,by omega,rfl,rfl⟩,[(4,4),(8,8)],[],[],LeG.mq (.ci 4 (.cons 8 rfl rfl (.refl _) ?_ .nil))⟩
    ·omega
    ·rw [hsn]; rfl
  ·have hje:j=cs.length:=by omega
   rw [hje,List.take_length]
   (refine gGo ?_; intros)
   (refine gM ?_; conv=>whnf)
   exact retH rfl (.norm _) rfl rfl rfl trivial
 ·have he:repE l p=(⟨0,0,0,[]⟩,validE l p):=by unfold repE; rw [if_neg h]
  rw [he]
  (refine gGo ?_; intros)
  (refine gM ?_; conv=>whnf)
  exact retH rfl (.norm _) rfl rfl rfl trivial
end Go.Sx.Sp
namespace Go.Sx.Sp
open Go Go.Sx Go.Proofs
attribute [local irreducible] GoodW famL
end Go.Sx.Sp
namespace Go.Sx.Sp
open Go Go.Sx Go.Proofs
attribute [local irreducible] GoodW famL
theorem tblRows_snoc (a:List Table) (t:Table):tblRows (a ++ [t])=tblRows a ++ [t.row]:=by simp [tblRows]
end Go.Sx.Sp
namespace Go.Sx.Sp
open Go Go.Sx Go.Proofs
attribute [local irreducible] GoodW famL
def fitC (a b:Cell):Bool:=!a.null && (!b.null && decide (a.text=b.text))
section
variable (l:List Table) (p:Pth)
def tabN (i:Nat):Table:=(nodeAt l p p.steps.length i).t
def frN (i:Nat):Nat:=(nodeAt l p p.steps.length i).fr
def ownN (i:Nat):Nat:=(nodeAt l p p.steps.length i).own
end
end Go.Sx.Sp
namespace Go.Sx.Sp
open Go Go.Sx Go.Proofs
attribute [local irreducible] GoodW famL
section
variable (l:List Table) (p:Pth)
end
section
variable {l:List Table} {p:Pth}
end
end Go.Sx.Sp
namespace Go.Sx.Sp
open Go Go.Sx Go.Proofs
attribute [local irreducible] GoodW famL
end Go.Sx.Sp
namespace Go.Sx.Sp
open Go Go.Sx Go.Proofs
attribute [local irreducible] GoodW famL
end Go.Sx.Sp
namespace Go.Sx.Sp
open Go Go.Sx Go.Proofs Go.RowKit
attribute [local irreducible] GoodW famL
theorem arg_ints {n:Nat} {u:V} (hs:argShape T (n + 2) 22 u):∃ l:List Int,u=.sl (intRows .i64 l) false:=by
 obtain ⟨rows,hr,_,h⟩:=shape_sl (T:=T) (t:=22) rfl (argShape_one (T:=T) (t:=22) rfl rfl hs)
 obtain ⟨l,rfl,_⟩:=rows_map (f:=fun x:Int=>[V.int .i64 x]) (p:=fun _=>True) (rows:=rows) fun r hr=>by
  obtain ⟨x,rfl,_⟩:=shape_int (T:=T) (t:=3) rfl (h r hr)
  exact ⟨x,rfl,trivial⟩
 cases hr
 exact ⟨l,rfl⟩
end Go.Sx.Sp
namespace Go.Sx.Sp
open Go Go.Sx Go.Proofs
attribute [local irreducible] GoodW famL
noncomputable def wordF (ws:List Str) (l:List Int) (p:Nat):Str:=if h:ws ≠ [] ∧ ws.length ≤ 4611686018427387904 ∧ p ≤ l.length then Classical.choose (word_spec l p ws h.1 h.2.1 h.2.2) else []
theorem wordF_spec {ws:List Str} {l:List Int} {p:Nat} (h1:ws ≠ []) (h2:ws.length ≤ 4611686018427387904) (h:p ≤ l.length):wordF ws l p ∈ ws ∧ Spec Tryz.prog 29 [.bp 0 0,.sl (strRows ws) false] [(0,diceB l p)] (.str (wordF ws l p)) [(0,diceB l (nextP l p))]:=by
 have:=Classical.choose_spec (word_spec l p ws h1 h2 h)
 simp only [wordF,dif_pos (show ws ≠ [] ∧ ws.length ≤ 4611686018427387904 ∧ p ≤ l.length from ⟨h1,h2,h⟩)]
 exact this
def seqF {α:Type} (step:Nat → Nat → α × Nat):Nat → Nat → Nat → List α × Nat
 | 0,_,p=>([],p)
 | n + 1,i,p=>((step i p).1 :: (seqF step n (i + 1) (step i p).2).1,(seqF step n (i + 1) (step i p).2).2)
theorem seqF_len {α:Type} (step:Nat → Nat → α × Nat):∀ n i p,(seqF step n i p).1.length=n
 | 0,_,_=>rfl
 | n + 1,i,p=>by simp only [seqF,List.length_cons,seqF_len step n]
theorem seqF_ok {α:Type} {step:Nat → Nat → α × Nat} {L:Nat} {Q:Nat → α → Prop} (h:∀ i p,p ≤ L → Q i (step i p).1 ∧ (step i p).2 ≤ L):∀ n i p,p ≤ L → (∀ j (hj:j < (seqF step n i p).1.length),Q (i + j) (seqF step n i p).1[j]) ∧ (seqF step n i p).2 ≤ L
 | 0,_,p,hp=>⟨fun j hj=>(by cases hj),hp⟩
 | n + 1,i,p,hp=>by
  obtain ⟨h1,h2⟩:=h i p hp
  obtain ⟨h3,h4⟩:=seqF_ok h n (i + 1) _ h2
  refine ⟨fun j hj=>?_,h4⟩
  cases j with
  | zero=>exact h1
  | succ j =>
   have:=h3 j (by simp only [seqF,List.length_cons] at hj; omega)
   rw [show i + (j + 1)=i + 1 + j by omega]
   exact this
def jCells:List Str:=[[97],[98],[99],[97]]
def jNames:List Str:=[[105,100],[107,101,121],[118]]
noncomputable def cellJ (l:List Int) (p:Nat):Cell × Nat:=(if nextV l (nextP l p) 9=1 then ⟨true,[]⟩ else ⟨false,wordF jCells l p⟩,nextP l (nextP l p))
noncomputable def colJ (l:List Int) (rows p:Nat):Column × Nat:=(⟨wordF jNames l p,(seqF (fun _ q=>cellJ l q) rows 0 (nextP l p)).1⟩,(seqF (fun _ q=>cellJ l q) rows 0 (nextP l p)).2)
def rowsJ (l:List Int) (p:Nat):Nat:=1 + (nextV l p 5).toNat
def colsJ (l:List Int) (p:Nat):Nat:=1 + (nextV l (nextP l p) 2).toNat
noncomputable def tabJ (l:List Int) (k p:Nat):Table × Nat:=(⟨(k + 1:Nat),[106],(seqF (fun _ q=>colJ l (rowsJ l p) q) (colsJ l p) 0 (nextP l (nextP l p))).1⟩,(seqF (fun _ q=>colJ l (rowsJ l p) q) (colsJ l p) 0 (nextP l (nextP l p))).2)
def tabsJ (l:List Int) (most:Int) (p:Nat):Nat:=2 + (nextV l p (most - 1)).toNat
noncomputable def joinedF (l:List Int) (most:Int) (p:Nat):List Table × Nat:=seqF (fun k q=>tabJ l k q) (tabsJ l most p) 0 (nextP l p)
structure CellJ (c:Cell):Prop where
 ok:c=⟨true,[]⟩ ∨ (c.null=false ∧ c.text ∈ jCells)
structure ColJ (n:Nat) (c:Column):Prop where
 name:c.name ∈ jNames
 len:c.cells.length=n
 cells:∀ x ∈ c.cells,CellJ x
structure TabJ (k:Nat) (t:Table):Prop where
 id:t.id=(k + 1:Nat)
 name:t.name=[106]
 few:1 ≤ t.cols.length ∧ t.cols.length ≤ 2
 cols:∃ n,1 ≤ n ∧ n ≤ 5 ∧ ∀ c ∈ t.cols,ColJ n c
theorem cellJ_ok {l:List Int} {p:Nat} (hp:p ≤ l.length):CellJ (cellJ l p).1 ∧ (cellJ l p).2 ≤ l.length:=by
 refine ⟨⟨?_⟩,nextP_le (nextP_le hp)⟩
 unfold cellJ
 simp only
 split
 ·exact .inl rfl
 ·exact .inr ⟨rfl,(wordF_spec (ws:=jCells) (by decide) (by decide) hp).1⟩
theorem colJ_ok {l:List Int} {n p:Nat} (hp:p ≤ l.length):ColJ n (colJ l n p).1 ∧ (colJ l n p).2 ≤ l.length:=by
 obtain ⟨h1,h2⟩:=seqF_ok (step:=fun _ q=>cellJ l q) (Q:=fun _ c=>CellJ c) (fun i q hq=>cellJ_ok hq) n 0 _ (nextP_le hp)
 refine ⟨⟨(wordF_spec (ws:=jNames) (by decide) (by decide) hp).1,seqF_len _ _ _ _,fun x hx=>?_⟩,h2⟩
 obtain ⟨j,hj,rfl⟩:=List.getElem_of_mem hx
 exact h1 j hj
theorem tabJ_ok {l:List Int} {k p:Nat} (hp:p ≤ l.length):TabJ k (tabJ l k p).1 ∧ (tabJ l k p).2 ≤ l.length:=by
 obtain ⟨h1,h2⟩:=seqF_ok (step:=fun _ q=>colJ l (rowsJ l p) q) (Q:=fun _ c=>ColJ (rowsJ l p) c) (fun i q hq=>colJ_ok hq) (colsJ l p) 0 _ (nextP_le (nextP_le hp))
 have hr:=nextV_range l p (n:=5) (by omega)
 have hc:=nextV_range l (nextP l p) (n:=2) (by omega)
 refine ⟨⟨rfl,rfl,?_,rowsJ l p,?_,?_,fun c hx=>?_⟩,h2⟩
 ·show 1 ≤ (seqF (fun _ q=>colJ l (rowsJ l p) q) (colsJ l p) 0 (nextP l (nextP l p))).1.length ∧ (seqF (fun _ q=>colJ l (rowsJ l p) q) (colsJ l p) 0 (nextP l (nextP l p))).1.length ≤ 2
  rw [seqF_len]
  unfold colsJ; omega
 ·unfold rowsJ; omega
 ·unfold rowsJ; omega
 ·obtain ⟨j,hj,rfl⟩:=List.getElem_of_mem hx
  exact h1 j hj
theorem joined_ok {l:List Int} {most:Int} {p:Nat} (hm:2 ≤ most ∧ most ≤ 100) (hp:p ≤ l.length):(2 ≤ (joinedF l most p).1.length ∧ (joinedF l most p).1.length ≤ most.toNat) ∧ (∀ k (hk:k < (joinedF l most p).1.length),TabJ k (joinedF l most p).1[k]) ∧ (joinedF l most p).2 ≤ l.length:=by
 obtain ⟨h1,h2⟩:=seqF_ok (step:=fun k q=>tabJ l k q) (Q:=TabJ) (fun i q hq=>tabJ_ok hq) (tabsJ l most p) 0 _ (nextP_le hp)
 have hr:=nextV_range l p (n:=most - 1) (by omega)
 refine ⟨?_,fun k hk=>?_,h2⟩
 ·unfold joinedF
  rw [seqF_len]
  unfold tabsJ; omega
 ·have:=h1 k hk
  rw [Nat.zero_add] at this
  exact this
theorem cellRows_snoc (a:List Cell) (c:Cell):cellRows (a ++ [c])=cellRows a ++ [c.row]:=by simp [cellRows]
set_option maxHeartbeats 16000000 in
theorem joined_spec (l:List Int) (most:Int) (p:Nat) (hm:2 ≤ most ∧ most ≤ 100) (hp:p ≤ l.length):Spec Tryz.prog 11 [.bp 0 0,.int .i64 most] [(0,diceB l p)] (.sl (tblRows (joinedF l most p).1) false) [(0,diceB l (joinedF l most p).2)]:=by
 have hp1:=nextP_le hp
 have sp0:=next_spec l p (most - 1) (by omega) hp
 have hr:=nextV_range l p (n:=most - 1) (by omega)
 have hres:joinedF l most p=seqF (fun k q=>tabJ l k q) (2 + (nextV l p (most - 1)).toNat) 0 (nextP l p):=rfl
 obtain ⟨N,hN⟩:=Int.eq_ofNat_of_zero_le hr.1
 rw [hN] at sp0 hr hres
 rw [Int.toNat_natCast] at hres
 generalize nextP l p=p1 at *
 generalize joinedF l most p=res at *
 refine gEn env Tryz.func11 fun Γ hN hK hML=>?_
 (refine gGo ?_; intros)
 (refine ⟨_,_,_,callG [(0,0)] [] [] rfl rfl rfl (by kernel_rfl) (sp0) (by repeat' (first | exact trivial | exact Lent.refl _ | exact Lent.norm _ | exact Lent.whole rfl rfl (by first | rfl | exact List.length_append.symm | exact hlenR | simp) rfl (by first | exact .inl rfl | exact .inr rfl) | apply And.intro)) rfl ⟨rfl,rfl,rfl,rfl,rfl,by repeat' (first | exact trivial | rfl | apply And.intro),rfl,rfl⟩,?_⟩; conv=>whnf)
 (refine gGo ?_; intros)
 refine W.ownNil 5 90 3 rfl rfl ?_
 refine W.loopG (fun m st=>∃ (k q:Nat) (out:List Table),k ≤ 2 + N ∧ q ≤ l.length ∧ out.length=k ∧ res=(out ++ (seqF (fun k q=>tabJ l k q) (2 + N - k) k q).1,(seqF (fun k q=>tabJ l k q) (2 + N - k) k q).2) ∧ m=2 + N - k ∧ st=⟨[(0,.bp 0 0),(5,.osl 90 0 0 (tblRows out).length (tblRows out).length),(15,.int .i64 (2 + (N:Int))),(16,.int .i64 k)],[(0,[diceB l q]),(90,[.rows 3 (tblRows out) (some [])])],[0,90]⟩)
  (2 + N) _ ⟨0,p1,[],by omega,hp1,rfl,hres,by omega,rfl⟩ ⟨[(0,0),(90,90)],[],[],.mq (.ci 0 (.ci 90 .nil))⟩ ?_
 rintro m st ⟨k,q,out,hk,hq,ho,he,rfl,rfl⟩
 have hol:=tblRows_len out
 (refine gGo ?_; intros)
 refine boolRes_split (fun hb=>?_) (fun hb=>?_) <;> conv=>whnf
 ·have hkl:k < 2 + N:=by omega
  have hq1:=nextP_le hq
  have hq2:=nextP_le hq1
  have sp1:=next_spec l q 5 (by omega) hq
  have hr1:=nextV_range l q (n:=5) (by omega)
  have sp2:=next_spec l (nextP l q) 2 (by omega) hq1
  have hr2:=nextV_range l (nextP l q) (n:=2) (by omega)
  have hT:tabJ l k q=(⟨(k + 1:Nat),[106],(seqF (fun _ q'=>colJ l (1 + (nextV l q 5).toNat) q') (1 + (nextV l (nextP l q) 2).toNat) 0 (nextP l (nextP l q))).1⟩,(seqF (fun _ q'=>colJ l (1 + (nextV l q 5).toNat) q') (1 + (nextV l (nextP l q) 2).toNat) 0 (nextP l (nextP l q))).2):=rfl
  have htok:=(tabJ_ok (l:=l) (k:=k) hq).2
  obtain ⟨R,hR⟩:=Int.eq_ofNat_of_zero_le hr1.1
  obtain ⟨M,hM⟩:=Int.eq_ofNat_of_zero_le hr2.1
  rw [hR] at sp1 hr1 hT
  rw [hM] at sp2 hr2 hT
  rw [Int.toNat_natCast,Int.toNat_natCast] at hT
  generalize hC:seqF (fun _ q=>colJ l (1 + R) q) (1 + M) 0 (nextP l (nextP l q))=C at hT
  generalize nextP l (nextP l q)=q2 at *
  generalize nextP l q=q1 at *
  rw [show 2 + N - k=(2 + N - (k + 1)) + 1 by omega] at he
  simp only [seqF] at he
  rw [hT] at he htok
  clear hT hR hM
  (refine gGo ?_; intros)
  (refine ⟨_,_,_,callG [(0,0)] [] [] rfl rfl rfl (by kernel_rfl) (sp1) (by repeat' (first | exact trivial | exact Lent.refl _ | exact Lent.norm _ | exact Lent.whole rfl rfl (by first | rfl | exact List.length_append.symm | exact hlenR | simp) rfl (by first | exact .inl rfl | exact .inr rfl) | apply And.intro)) rfl ⟨rfl,rfl,rfl,rfl,rfl,by repeat' (first | exact trivial | rfl | apply And.intro),rfl,rfl⟩,?_⟩; conv=>whnf)
  (refine gGo ?_; intros)
  (refine ⟨_,_,_,callG [(0,0)] [] [] rfl rfl rfl (by kernel_rfl) (sp2) (by repeat' (first | exact trivial | exact Lent.refl _ | exact Lent.norm _ | exact Lent.whole rfl rfl (by first | rfl | exact List.length_append.symm | exact hlenR | simp) rfl (by first | exact .inl rfl | exact .inr rfl) | apply And.intro)) rfl ⟨rfl,rfl,rfl,rfl,rfl,by repeat' (first | exact trivial | rfl | apply And.intro),rfl,rfl⟩,?_⟩; conv=>whnf)
  (refine gGo ?_; intros)
  refine W.ownCell 7 0 2 91 2 rfl rfl rfl rfl rfl ?_
  refine W.loopG (fun m st=>∃ (j q:Nat) (cs:List Column),j ≤ 1 + M ∧ q ≤ l.length ∧ cs.length=j ∧ C=(cs ++ (seqF (fun _ q=>colJ l (1 + R) q) (1 + M - j) j q).1,(seqF (fun _ q=>colJ l (1 + R) q) (1 + M - j) j q).2) ∧ m=1 + M - j ∧ st=⟨[(0,.bp 0 0),(5,.osl 90 0 0 (tblRows out).length (tblRows out).length),(15,.int .i64 (2 + (N:Int))),(16,.int .i64 k),(7,.bp 7 0),(8,.int .i64 (1 + (R:Int))),(27,.int .i64 (1 + (M:Int))),(28,.int .i64 j)],[(0,[diceB l q]),(90,[.rows 3 (tblRows out) (some [])]),(7,[.rows 3 [[.int .i64 ((k:Int) + 1),.str [106],.osl 91 0 0 (colRows cs).length (colRows cs).length]] none]),(91,[.rows 2 (colRows cs) (some [])])],[0,90,7,91]⟩)
   (1 + M) _ ⟨0,q2,[],by omega,hq2,rfl,hC.symm,by omega,rfl⟩ ⟨[(0,0),(90,90),(7,7),(91,91)],[],[],.mq (.ci 0 (.ci 90 (.ci 7 (.ci 91 .nil))))⟩ ?_
  clear hC hq2 sp1 sp2 hq1 hq
  rintro m st ⟨j,q,cs,hj,hq,hcs,hce,rfl,rfl⟩
  have hcl:=colRows_len cs
  (refine gGo ?_; intros)
  refine boolRes_split (fun hb=>?_) (fun hb=>?_) <;> conv=>whnf
  ·have hjl:j < 1 + M:=by omega
   have hq1:=nextP_le hq
   obtain ⟨_,sp3⟩:=wordF_spec (ws:=jNames) (by decide) (by decide) hq
   have hcd:colJ l (1 + R) q=(⟨wordF jNames l q,(seqF (fun _ q=>cellJ l q) (1 + R) 0 (nextP l q)).1⟩,(seqF (fun _ q=>cellJ l q) (1 + R) 0 (nextP l q)).2):=rfl
   have hcok:=(colJ_ok (l:=l) (n:=1 + R) hq).2
   rw [show 1 + M - j=(1 + M - (j + 1)) + 1 by omega] at hce
   simp only [seqF] at hce
   generalize hX:seqF (fun _ q=>cellJ l q) (1 + R) 0 (nextP l q)=X at hcd
   rw [hcd] at hce hcok
   clear hcd
   generalize nextP l q=q1 at *
   generalize wordF jNames l q=nm at *
   (refine gGo ?_; intros)
   (refine ⟨_,_,_,callG [(0,0)] [] [] rfl rfl rfl (by kernel_rfl) (sp3) (by repeat' (first | exact trivial | exact Lent.refl _ | exact Lent.norm _ | exact Lent.whole rfl rfl (by first | rfl | exact List.length_append.symm | exact hlenR | simp) rfl (by first | exact .inl rfl | exact .inr rfl) | apply And.intro)) rfl ⟨rfl,rfl,rfl,rfl,rfl,by repeat' (first | exact trivial | rfl | apply And.intro),rfl,rfl⟩,?_⟩; conv=>whnf)
   (refine gGo ?_; intros)
   refine W.ownCell 9 0 1 92 2 rfl rfl rfl rfl rfl ?_
   refine W.loopG (fun m st=>∃ (i q:Nat) (xs:List Cell),i ≤ 1 + R ∧ q ≤ l.length ∧ xs.length=i ∧ X=(xs ++ (seqF (fun _ q=>cellJ l q) (1 + R - i) i q).1,(seqF (fun _ q=>cellJ l q) (1 + R - i) i q).2) ∧ m=1 + R - i ∧ st=⟨[(0,.bp 0 0),(5,.osl 90 0 0 (tblRows out).length (tblRows out).length),(15,.int .i64 (2 + (N:Int))),(16,.int .i64 k),(7,.bp 7 0),(8,.int .i64 (1 + (R:Int))),(27,.int .i64 (1 + (M:Int))),(28,.int .i64 j),(9,.bp 9 0),(34,.int .i64 (1 + (R:Int))),(35,.int .i64 i)],[(0,[diceB l q]),(90,[.rows 3 (tblRows out) (some [])]),(7,[.rows 3 [[.int .i64 ((k:Int) + 1),.str [106],.osl 91 0 0 (colRows cs).length (colRows cs).length]] none]),(91,[.rows 2 (colRows cs) (some [])]),(9,[.rows 2 [[.str nm,.osl 92 0 0 (cellRows xs).length (cellRows xs).length]] none]),(92,[.rows 2 (cellRows xs) (some [])])],[0,90,7,91,9,92]⟩)
    (1 + R) _ ⟨0,q1,[],by omega,hq1,rfl,hX.symm,by omega,rfl⟩ ⟨[(0,0),(90,90),(7,7),(91,91),(9,9),(92,92)],[],[],.mq (.ci 0 (.ci 90 (.ci 7 (.ci 91 (.ci 9 (.ci 92 .nil))))))⟩ ?_
   clear hX hq1 sp3 hq
   rintro m st ⟨i,q,xs,hi,hq,hxs,hxe,rfl,rfl⟩
   have hxl:=cellRows_len xs
   (refine gGo ?_; intros)
   refine boolRes_split (fun hb=>?_) (fun hb=>?_) <;> conv=>whnf
   ·have hil:i < 1 + R:=by omega
    obtain ⟨_,sp4⟩:=wordF_spec (ws:=jCells) (by decide) (by decide) hq
    have sp5:=next_spec l (nextP l q) 9 (by omega) (nextP_le hq)
    have hcellok:=(cellJ_ok (l:=l) hq).2
    rw [show 1 + R - i=(1 + R - (i + 1)) + 1 by omega] at hxe
    simp only [seqF] at hxe
    (refine gGo ?_; intros)
    (refine ⟨_,_,_,callG [(0,0)] [] [] rfl rfl rfl (by kernel_rfl) (sp4) (by repeat' (first | exact trivial | exact Lent.refl _ | exact Lent.norm _ | exact Lent.whole rfl rfl (by first | rfl | exact List.length_append.symm | exact hlenR | simp) rfl (by first | exact .inl rfl | exact .inr rfl) | apply And.intro)) rfl ⟨rfl,rfl,rfl,rfl,rfl,by repeat' (first | exact trivial | rfl | apply And.intro),rfl,rfl⟩,?_⟩; conv=>whnf)
    (refine gGo ?_; intros)
    (refine ⟨_,_,_,callG [(0,0)] [] [] rfl rfl rfl (by kernel_rfl) (sp5) (by repeat' (first | exact trivial | exact Lent.refl _ | exact Lent.norm _ | exact Lent.whole rfl rfl (by first | rfl | exact List.length_append.symm | exact hlenR | simp) rfl (by first | exact .inl rfl | exact .inr rfl) | apply And.intro)) rfl ⟨rfl,rfl,rfl,rfl,rfl,by repeat' (first | exact trivial | rfl | apply And.intro),rfl,rfl⟩,?_⟩; conv=>whnf)
    (refine gGo ?_; intros)
    refine boolRes_split (fun hb=>?_) (fun hb=>?_) <;> conv=>whnf
    ·have hc:cellJ l q=(⟨true,[]⟩,nextP l (nextP l q)):=by unfold cellJ; rw [if_pos hb]
     rw [hc] at hxe hcellok
     (refine gGo ?_; intros)
     refine ⟨⟨rowsSz_cons rfl rowsSz_nil,rfl⟩,fitsN (n:=(cellRows xs).length + 1) (b:=24) (by omega) (by omega),.inl ⟨rfl,rfl,?_⟩⟩
     conv=>whnf
     (refine gGo ?_; intros)
     refine ⟨_,_,?_,⟨i + 1,_,xs ++ [_],by omega,hcellok,by simp; omega,(by rw [hxe,List.append_cons]),rfl,rfl⟩,[(0,0),(90,90),(7,7),(91,91),(9,9),(92,92)],[],[],LeG.mq (.ci 0 (.ci 90 (.ci 7 (.ci 91 (.cons 9 rfl rfl (.refl _) ?_ (.cons 92 rfl rfl (.refl _) ?_ .nil))))))⟩
     ·omega
     ·rw [cellRows_snoc,List.length_append]; rfl
     ·rw [cellRows_snoc]; rfl
    ·have hc:cellJ l q=(⟨false,wordF jCells l q⟩,nextP l (nextP l q)):=by unfold cellJ; rw [if_neg hb]
     rw [hc] at hxe hcellok
     (refine gGo ?_; intros)
     refine ⟨⟨rowsSz_cons rfl rowsSz_nil,rfl⟩,fitsN (n:=(cellRows xs).length + 1) (b:=24) (by omega) (by omega),.inl ⟨rfl,rfl,?_⟩⟩
     conv=>whnf
     (refine gGo ?_; intros)
     refine ⟨_,_,?_,⟨i + 1,_,xs ++ [_],by omega,hcellok,by simp; omega,(by rw [hxe,List.append_cons]),rfl,rfl⟩,[(0,0),(90,90),(7,7),(91,91),(9,9),(92,92)],[],[],LeG.mq (.ci 0 (.ci 90 (.ci 7 (.ci 91 (.cons 9 rfl rfl (.refl _) ?_ (.cons 92 rfl rfl (.refl _) ?_ .nil))))))⟩
     ·omega
     ·rw [cellRows_snoc,List.length_append]; rfl
     ·rw [cellRows_snoc]; rfl
   ·have hie:i=1 + R:=by omega
    rw [hie,Nat.sub_self] at hxe
    simp only [seqF,List.append_nil] at hxe
    rw [hxe] at hce hcok
    clear hxe
    refine W.leG (mp:=[(0,0),(90,90),(7,7),(91,91),(9,9)]) (bo:=[92]) (st':=⟨[(0,.bp 0 0),(5,.osl 90 0 0 (tblRows out).length (tblRows out).length),(15,.int .i64 (2 + (N:Int))),(16,.int .i64 k),(7,.bp 7 0),(8,.int .i64 (1 + (R:Int))),(27,.int .i64 (1 + (M:Int))),(28,.int .i64 j),(9,.bp 9 0),(36,.bool false)],[(0,[diceB l q]),(90,[.rows 3 (tblRows out) (some [])]),(7,[.rows 3 [[.int .i64 ((k:Int) + 1),.str [106],.osl 91 0 0 (colRows cs).length (colRows cs).length]] none]),(91,[.rows 2 (colRows cs) (some [])]),(9,[.rows 2 [Column.row ⟨nm,xs⟩] none])],[0,90,7,91,9]⟩)
     (LeG.mq (.ci 0 (.ci 90 (.ci 7 (.ci 91 (.cons 9 (b1:=.rows 2 [Column.row ⟨nm,xs⟩] none) rfl rfl (.rows _ _ _ (by repeat' (first | exact trivial | exact ⟨Lent.refl _,rfl⟩ | exact ⟨Lent.norm _,rfl⟩ | exact ⟨Lent.whole rfl rfl (by first | rfl | exact List.length_append.symm | exact hlenR | simp) rfl (by first | exact .inl rfl | exact .inr rfl),rfl⟩ | apply And.intro))) rfl .nil)))))) ?_
    (refine gGo ?_; intros)
    refine ⟨⟨rowsSz_cons rfl rowsSz_nil,rfl⟩,fitsN (n:=(colRows cs).length + 1) (b:=40) (by omega) (by omega),.inl ⟨rfl,rfl,?_⟩⟩
    conv=>whnf
    (refine gGo ?_; intros)
    refine ⟨_,_,?_,⟨j + 1,_,cs ++ [_],by omega,hcok,by simp; omega,(by rw [hce,List.append_cons]),rfl,rfl⟩,[(0,0),(90,90),(7,7),(91,91)],[],[],LeG.mq (.ci 0 (.ci 90 (.cons 7 rfl rfl (.refl _) ?_ (.cons 91 rfl rfl (.refl _) ?_ .nil))))⟩
    ·omega
    ·rw [colRows_snoc,List.length_append]; rfl
    ·rw [colRows_snoc]; rfl
  ·have hje:j=1 + M:=by omega
   rw [hje,Nat.sub_self] at hce
   simp only [seqF,List.append_nil] at hce
   rw [hce] at he htok
   clear hce
   refine W.leG (mp:=[(0,0),(90,90),(7,7)]) (bo:=[91]) (st':=⟨[(0,.bp 0 0),(5,.osl 90 0 0 (tblRows out).length (tblRows out).length),(15,.int .i64 (2 + (N:Int))),(16,.int .i64 k),(7,.bp 7 0),(29,.bool false)],[(0,[diceB l q]),(90,[.rows 3 (tblRows out) (some [])]),(7,[.rows 3 [Table.row ⟨(k + 1:Nat),[106],cs⟩] none])],[0,90,7]⟩)
    (LeG.mq (.ci 0 (.ci 90 (.cons 7 (b1:=.rows 3 [Table.row ⟨(k + 1:Nat),[106],cs⟩] none) rfl rfl (.rows _ _ _ (by repeat' (first | exact trivial | exact ⟨Lent.refl _,rfl⟩ | exact ⟨Lent.norm _,rfl⟩ | exact ⟨Lent.whole rfl rfl (by first | rfl | exact List.length_append.symm | exact hlenR | simp) rfl (by first | exact .inl rfl | exact .inr rfl),rfl⟩ | apply And.intro))) rfl .nil)))) ?_
   (refine gGo ?_; intros)
   refine ⟨⟨rowsSz_cons rfl rowsSz_nil,rfl⟩,fitsN (n:=(tblRows out).length + 1) (b:=48) (by omega) (by omega),.inl ⟨rfl,rfl,?_⟩⟩
   conv=>whnf
   (refine gGo ?_; intros)
   refine ⟨_,_,?_,⟨k + 1,_,out ++ [_],by omega,htok,by simp; omega,(by rw [he,List.append_cons]),rfl,rfl⟩,[(0,0),(90,90)],[],[],?_⟩
   ·omega
   ·rw [tblRows_snoc,List.length_append]
    exact LeG.mq (.ci 0 (.ci 90 .nil))
 ·have hke:k=2 + N:=by omega
  rw [hke,Nat.sub_self] at he
  simp only [seqF,List.append_nil] at he
  rw [he]
  (refine gGo ?_; intros)
  refine W.leG (mp:=[(0,0)]) (bo:=[90]) (st':=⟨[(4,.sl (tblRows out) false)],[(0,[diceB l q])],[0]⟩)
   (LeG.mk' rfl rfl rfl ⟨⟨_,Lent.whole rfl rfl rfl rfl (.inl rfl),rfl⟩,trivial⟩ (.ci 0 .nil) rfl rfl (by rw [hK]; rfl)) ?_
  (refine gM ?_; conv=>whnf)
  exact retH rfl (.refl _) rfl rfl rfl ⟨rfl,rfl,trivial⟩
end Go.Sx.Sp
namespace Go.Sx.Sp
open Go Go.Sx Go.Proofs
attribute [local irreducible] GoodW famL
section
variable (l:List Table) (p:Pth)
def stepFits (q x y:Nat):Bool:=fitC (cellT (tabN l p (parI p q)) (frN l p (q + 1)) x) (cellT (tabN l p (q + 1)) (ownN l p (q + 1)) y)
end
section
variable {l:List Table} {p:Pth}
end
end Go.Sx.Sp
namespace Go.Sx.Sp
open Go Go.Sx Go.Proofs
attribute [local irreducible] GoodW famL
theorem ascB_from:∀ (l:List Table) (k:Nat),(∀ j (hj:j < l.length),l[j].id=((k + j:Nat):Int)) → ascB l=true
 | [],_,_=>rfl
 | [a],_,_=>rfl
 | a :: b :: r,k,h=>by
  have h0:=h 0 (by simp)
  have h1:=h 1 (by simp)
  have ih:=ascB_from (b :: r) (k + 1) (fun j hj=>by
   have:=h (j + 1) (by simp at hj ⊢; omega)
   simp only [List.getElem_cons_succ] at this
   rw [this]
   congr 1; omega)
  simp only [List.getElem_cons_zero,List.getElem_cons_succ] at h0 h1
  simp only [ascB,ih,Bool.and_true,decide_eq_true_eq]
  omega
theorem validB_J {k:Nat} {t:Table} (h:TabJ k t) (hk:k < 100):validB t=true:=by
 obtain ⟨n,n1,n2,hc⟩:=h.cols
 have hrows:rowsN t=n:=by
  unfold rowsN
  have hf:=h.few
  cases e:t.cols with
  | nil=>rw [e] at hf; simp at hf
  | cons c cs=>exact (hc c (by rw [e]; simp)).len
 have hid:=h.id
 have hf:=h.few
 unfold validB
 have h1:headB t=true:=by
  unfold headB
  have a1:decide ((0:Int) ≤ t.id ∧ t.id ≤ 1073741824)=true:=decide_eq_true ⟨by omega,by omega⟩
  have a2:fineB t.name=true:=by rw [h.name]; decide +kernel
  rw [a1,a2,decide_eq_true (show t.cols.length ≤ 64 by omega),decide_eq_true (show rowsN t ≤ 4096 by omega)]; rfl
 have h2:t.cols.any (badCol t)=false:=by
  rw [List.any_eq_false]
  intro c hcm
  have g:=hc c hcm
  have b1:∀ s ∈ jNames,fineB s=true:=by decide +kernel
  have b2:∀ s ∈ jCells,fineB s=true:=by decide +kernel
  have b3:fineB []=true:=by decide +kernel
  unfold badCol
  have b4:c.cells.all cellB=true:=by
   rw [List.all_eq_true]
   intro x hx
   rcases (g.cells x hx).ok with rfl | ⟨h3,h4⟩
   ·decide +kernel
   ·unfold cellB
    rw [b2 _ h4,h3]; rfl
  rw [b1 _ g.name,b4,g.len,hrows]
  simp
 rw [h1,h2]; rfl
theorem listB_J {l:List Table} (h:∀ k (hk:k < l.length),TabJ k l[k]) (hl:l.length ≤ 100):listB l=true:=by
 unfold listB
 have h1:ascB l=true:=ascB_from l 1 (fun j hj=>by rw [(h j hj).id]; congr 1; omega)
 have h2:l.all validB=true:=by
  rw [List.all_eq_true]
  intro t ht
  obtain ⟨k,hk,rfl⟩:=List.getElem_of_mem ht
  exact validB_J (h k hk) (by omega)
 rw [h1,h2,decide_eq_true (show l.length ≤ 1024 by omega)]; rfl
section
variable (A B C:List Column) (a b c e:Nat)
end
section
variable {A B C:List Column} {a b c e:Nat}
end
end Go.Sx.Sp
namespace Go.Sx.Sp
open Go Go.Sx Go.Proofs
attribute [local irreducible] GoodW famL
end Go.Sx.Sp
