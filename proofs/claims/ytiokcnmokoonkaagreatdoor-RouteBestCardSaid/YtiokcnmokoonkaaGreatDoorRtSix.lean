/- The law of the best routes. -/
import Derived.Test.YtiokcnmokoonkaaGreatDoorJSix
import Derived.Test.YtiokcnmokoonkaaGreatDoorRtFive
import Derived.Test.YtiokcnmokoonkaaGreatDoorJFour
import Derived.Test.YtiokcnmokoonkaaGreatDoorSxFour
set_option linter.unusedVariables false
set_option linter.unusedSimpArgs false
namespace Go.Sx.Sp
open Go Go.Sx Go.Proofs
attribute [local irreducible] GoodW famL
end Go.Sx.Sp
namespace Go.Sx.Sp
open Go Go.Sx Go.Proofs
attribute [local irreducible] GoodW famL
end Go.Sx.Sp
namespace Go.Sx.Sp
open Go Go.Sx Go.Proofs Go.Sort
attribute [local irreducible] GoodW famL
end Go.Sx.Sp
namespace Go.Sx.Sp
open Go Go.Sx Go.Proofs
attribute [local irreducible] GoodW famL
end Go.Sx.Sp
namespace Go.Sx.Sp
open Go Go.Sx Go.Proofs
attribute [local irreducible] GoodW famL
theorem edges_few {l:List Table} (h:∀ b ∈ l,b.cols.length ≤ 2) (hl:l.length ≤ 4):(edges l).length ≤ 64:=by
 have h1:∀ k n,(edgeA l k n).length ≤ n * 8:=fun k n=>by
  have:=flat_le (fun i=>edgeR (l.getD k Table.zero) i (l.drop (k + 1))) 8 (List.range n) (fun i _=>by
   have:=flat_le (fun b:Table=>edgeB (l.getD k Table.zero) i b b.cols.length) 2 (l.drop (k + 1)) fun b hb=>Nat.le_trans (edgeB_len _ i b _) (h b (List.mem_of_mem_drop hb))
   rw [List.length_drop] at this
   show (edgeR (l.getD k Table.zero) i (l.drop (k + 1))).length ≤ 8
   unfold edgeR
   omega)
  rwa [List.length_range] at this
 have:=flat_le (fun k=>edgeA l k (l.getD k Table.zero).cols.length) 16 (List.range l.length) (fun k hk=>by
  have hk:=List.mem_range.1 hk
  have h1:=h1 k (l.getD k Table.zero).cols.length
  have h2:(l.getD k Table.zero).cols.length ≤ 2:=by
   rw [List.getD_eq_getElem?_getD,List.getElem?_eq_getElem (show k < l.length by omega)]
   exact h _ (List.getElem_mem _)
  show (edgeA l k (l.getD k Table.zero).cols.length).length ≤ 16
  omega)
 rw [List.length_range] at this
 show (edgeL l l.length).length ≤ 64
 unfold edgeL
 omega
end Go.Sx.Sp
namespace Go.Sx.Sp
open Go Go.Sx Go.Proofs Go.Sort
attribute [local irreducible] GoodW famL
def atT (p:Pth) (j:Nat):Int:=((p.steps.take j).map Stp.tt).getLastD p.start
theorem atT_mem (p:Pth) (j:Nat):atT p j ∈ befT p j:=by
 unfold atT befT
 generalize (p.steps.take j).map Stp.tt = l
 cases l with
 | nil=>exact List.mem_cons_self
 | cons a l=>rw [List.getLastD_eq_getLast?,List.getLast?_eq_some_getLast (by simp)]; exact List.mem_cons_of_mem _ (List.getLast_mem _)
theorem simL_chain {W:Int → List Stp} {dst from_:Int}:∀ (k:Nat) (way:List Stp) (at_:Int) (x:Pth),x ∈ simL W dst from_ k way at_ → at_ = (way.map Stp.tt).getLastD from_ →
  (x.steps.map Stp.tt).getLastD from_ = dst ∧ ∀ (j:Nat) s,x.steps[j]? = some s → way.length ≤ j → s ∈ W (atT x j) ∧ s.tt ∉ befT x j
 | 0,way,at_,x,hx,ha=>by
  unfold simL at hx
  split at hx
  ·rename_i hd
   simp only [List.mem_singleton] at hx
   subst hx
   refine ⟨by rw [← hd,ha],fun j s hj hl=>?_⟩
   rw [List.getElem?_eq_none hl] at hj; cases hj
  ·cases hx
 | k + 1,way,at_,x,hx,ha=>by
  unfold simL at hx
  split at hx
  ·rename_i hd
   simp only [List.mem_singleton] at hx
   subst hx
   refine ⟨by rw [← hd,ha],fun j s hj hl=>?_⟩
   rw [List.getElem?_eq_none hl] at hj; cases hj
  ·obtain ⟨s,hs,hx⟩:=List.mem_flatMap.1 hx
   split at hx
   ·cases hx
   ·rename_i hns
    obtain ⟨h1,⟨r,h2⟩,_⟩:=simL_pre k _ _ x hx
    obtain ⟨g1,g2⟩:=simL_chain k _ _ x hx (by rw [List.map_append,List.map_singleton,List.getLastD_concat])
    refine ⟨g1,fun j u hj hl=>?_⟩
    rcases Nat.lt_or_ge way.length j with h | h
    ·exact g2 j u hj (by rw [List.length_append,List.length_singleton]; omega)
    ·have e:j = way.length:=by omega
     subst e
     have e1:x.steps.take way.length = way:=by rw [← h2,List.append_assoc,List.take_left]
     have e2:x.steps[way.length]? = some s:=by rw [← h2,List.append_assoc,List.getElem?_append_right (Nat.le_refl _)]; simp
     rw [e2] at hj
     cases hj
     unfold atT befT
     rw [e1,h1,← ha]
     exact ⟨hs,hns⟩
theorem okE_rev {l:List Table} {s:Stp} (h:okE l s = true):(getC l s.ft s.fc).isSome = true ∧ (getC l s.tt s.tc).isSome = true:=by
 unfold okE at h
 simp only [Bool.and_eq_true] at h
 exact h.1
theorem wayW_get {l:List Table} {E:List Stp} {t:Int} {x:Stp} (h:x ∈ wayW l E t):(getC l x.ft x.fc).isSome = true ∧ (getC l x.tt x.tc).isSome = true:=by
 obtain ⟨s,_,h1,h2⟩:=wayW_mem.1 h
 have:=okE_rev h1
 rcases h2 with ⟨_,rfl⟩ | ⟨_,rfl⟩
 ·exact this
 ·exact ⟨this.2,this.1⟩
theorem routesL_valid {l:List Table} {E:List (List Int)} {from_ dst:Int} {k:Nat} {x:Pth} (hl:listB l = true) (hf:(findT l from_).isSome = true) (hk:k ≤ 4) (hx:x ∈ routesL l E from_ dst k) :
  validE l x = 0 ∧ x.start = from_ ∧ x.steps.length ≤ k:=by
 have hx':x ∈ simL (wayW l (stpsE E)) dst from_ k [] from_:=hx
 obtain ⟨h1,_,h3⟩:=simL_pre _ _ _ _ hx'
 obtain ⟨_,g⟩:=simL_chain _ _ _ _ hx' rfl
 simp only [List.length_nil,Nat.zero_add] at h3
 refine ⟨?_,h1,h3⟩
 unfold validE
 rw [if_pos hl,if_pos (by omega),if_pos]
 refine pathB_true (h1 ▸ hf) fun j hj=>?_
 have hj':=List.getElem?_eq_getElem hj
 obtain ⟨a,b⟩:=g j _ hj' (Nat.zero_le _)
 have c:=wayW_get a
 have d:=wayW_ft a
 unfold stepOK
 rw [hj']
 simp only [Bool.and_eq_true,Bool.not_eq_true',decide_eq_true_eq,decide_eq_false_iff_not]
 exact ⟨c.1,c.2,by rw [d]; exact atT_mem x j,b⟩
theorem pathsM_mem {l:List Table} {E:List (List Int)} {from_ dst:Int} {k:Nat} (hne:from_ ≠ dst) {x:Pth} (hx:x ∈ (pathsM l E from_ dst k).1):x ∈ routesL l E from_ dst k ∧ routeE l from_ dst k = 0:=by
 unfold pathsM at hx
 split at hx
 ·rename_i h0
  split at hx
  ·rw [Int.toNat_natCast,findP_eq hne,sortBy_mem] at hx
   exact ⟨List.mem_of_mem_take hx,h0⟩
  ·cases hx
 ·cases hx
theorem routeE_ok {l:List Table} {a b s:Int} (h:routeE l a b s = 0):listB l = true ∧ (0 ≤ s ∧ s ≤ 4) ∧ (findT l a).isSome = true ∧ (findT l b).isSome = true:=by
 unfold routeE at h
 split at h
 ·rename_i h1
  split at h
  ·rename_i h2
   split at h
   ·rename_i h3
    rw [Bool.and_eq_true] at h3
    exact ⟨h1,h2,h3⟩
   ·cases h
  ·cases h
 ·cases h
theorem pathsM_valid {l:List Table} {E:List (List Int)} {from_ dst:Int} {k:Nat} (hne:from_ ≠ dst) {x:Pth} (hx:x ∈ (pathsM l E from_ dst k).1):validE l x = 0:=by
 obtain ⟨h1,h2⟩:=pathsM_mem hne hx
 obtain ⟨a,b,c,d⟩:=routeE_ok h2
 exact (routesL_valid a c (by omega) h1).1
theorem repE_err (l:List Table) (p:Pth):(repE l p).2 = validE l p:=by
 unfold repE
 split
 ·rename_i h; exact h.symm
 ·rfl
theorem findT_J {L:List Table} (h:∀ k (hk:k < L.length),TabJ k L[k]) {n:Int}:(findT L n).isSome = true ↔ 1 ≤ n ∧ n ≤ L.length:=by
 unfold findT
 rw [List.find?_isSome]
 constructor
 ·rintro ⟨t,ht,hp⟩
  obtain ⟨k,hk,rfl⟩:=List.getElem_of_mem ht
  have:=(h k hk).id
  have:=of_decide_eq_true hp
  omega
 ·rintro ⟨h1,h2⟩
  have hk:n.toNat - 1 < L.length:=by omega
  refine ⟨L[n.toNat - 1],List.getElem_mem _,decide_eq_true ?_⟩
  have:=(h _ hk).id
  omega
theorem routeE_J {L:List Table} (h:∀ k (hk:k < L.length),TabJ k L[k]) (hl:L.length ≤ 100) {a b s:Int} (ha:1 ≤ a ∧ a ≤ L.length) (hb:1 ≤ b ∧ b ≤ L.length) (hs:0 ≤ s ∧ s ≤ 4):routeE L a b s = 0:=by
 unfold routeE
 rw [if_pos (listB_J h hl),if_pos hs,if_pos]
 rw [(findT_J h).2 ha,(findT_J h).2 hb]; rfl
theorem routeE_J5 {L:List Table} (h:∀ k (hk:k < L.length),TabJ k L[k]) (hl:L.length ≤ 4) {a s:Int} (hs:0 ≤ s ∧ s ≤ 4):routeE L a 77 s = 5:=by
 unfold routeE
 rw [if_pos (listB_J h (by omega)),if_pos hs,if_neg]
 intro h1
 rw [Bool.and_eq_true] at h1
 have:=(findT_J h).1 h1.2
 omega
theorem pathsM_two {l:List Table} {E:List (List Int)} {a b s:Int} (h:routeE l a b s = 0):(pathsM l E a b s).2 = 0 ∨ pathsM l E a b s = ([],3):=by
 unfold pathsM
 rw [if_pos h]
 split
 ·exact .inl rfl
 ·exact .inr rfl
theorem topM_ok {l:List Table} {E:List (List Int)} {a b s k:Int} (hk:0 ≤ k ∧ k ≤ 1024) (h:(pathsM l E a b s).2 = 0):topM l E a b s k = ((sortBy (cR l) (pathsM l E a b s).1).take k.toNat,0):=by
 unfold topM
 rw [if_pos hk,if_pos h]
theorem topM_bad {l:List Table} {E:List (List Int)} {a b s k e:Int} (hk:0 ≤ k ∧ k ≤ 1024) (h:pathsM l E a b s = ([],e)) (he:e ≠ 0):topM l E a b s k = ([],e):=by
 unfold topM
 rw [if_pos hk,h,if_neg he]
theorem top_all (l:List Table) (E:List (List Int)) (a b s:Int):(sortBy (cR l) (pathsM l E a b s).1).take (1024:Int).toNat = sortBy (cR l) (pathsM l E a b s).1:=
 List.take_of_length_le (by rw [sortBy_len]; exact pathsM_len l E a b s)
end Go.Sx.Sp
namespace Go.Sx.Sp
open Go Go.Sx Go.Proofs Go.Sort
attribute [local irreducible] GoodW famL
set_option maxHeartbeats 16000000 in
theorem best_law (t:List Int) (k:Int):Spec Tryz.prog 6 [.sl (intRows .i64 t) false,.int .i64 k] [] (.bool true) []:=by
 have hl:=intRows_len .i64 t
 have spL:=light_spec t
 have spA:=awake33_spec
 by_cases hll:t.length ≤ 500
 ·rw [decide_eq_true hll] at spL
  obtain ⟨⟨j1,j2⟩,j3,j4⟩:=joined_ok (l:=t) (most:=4) (p:=0) (by omega) (Nat.zero_le _)
  have spJ:=joined_spec t 4 0 (by omega) (Nat.zero_le _)
  generalize (joinedF t 4 0).1 = L at *
  generalize (joinedF t 4 0).2 = q at *
  have j2:L.length ≤ 4:=j2
  have hlist:=listB_J j3 (by omega)
  have hsm:=listB_small hlist
  have spE:=edges_spec L hlist (by omega)
  have hE11:=edges_11 L
  have hEf:=edges_few (l:=L) (fun b hb=>by obtain ⟨k,hk,rfl⟩:=List.getElem_of_mem hb; exact (j3 k hk).few.2) (by omega)
  generalize edges L = E at *
  have spM:=mod_spec k 6 (by decide)
  have rM:=modK_range (n:=k) (m:=6)
  obtain ⟨m,hm⟩:=Int.eq_ofNat_of_zero_le rM.1
  rw [hm] at spM rM
  have spT1:=top33_spec L E 1 2 (3:Nat) 1024 hsm hE11 (by omega)
  have spT2:=top33_spec L E 1 2 (3:Nat) (m:Nat) hsm hE11 (by omega)
  have spP:=paths33_spec L E 1 2 (3:Nat) hsm hE11 (by omega)
  have h0:routeE L 1 2 (3:Nat) = 0:=routeE_J j3 (by omega) (by omega) (by omega) (by omega)
  have hps:=pathsM_len L E 1 2 (3:Nat)
  have hnd:=pathsM_nodup L E 1 2 (3:Nat)
  have hv:∀ p ∈ (pathsM L E 1 2 (3:Nat)).1,validE L p = 0:=fun p hp=>pathsM_valid (by decide) hp
  have spX:=top33_spec L E 1 77 (3:Nat) 2 hsm hE11 (by omega)
  rw [topM_bad (e:=5) (by omega) (by unfold pathsM; rw [routeE_J5 j3 (by omega) (by omega),if_neg (by decide)]) (by decide)] at spX
  have spF:=find3_spec L 77
  have hF:(findT L 77).isSome = false:=by
   cases h:(findT L 77).isSome with
   | false=>rfl
   | true=>have:=(findT_J j3).1 h; omega
  rw [hF] at spF
  rcases pathsM_two h0 (E:=E) with he | he
  ·rw [topM_ok (by omega) he,top_all] at spT1
   rw [topM_ok (by omega) he,Int.toNat_natCast] at spT2
   rw [he] at spP
   obtain ⟨qs,hqs⟩:∃ qs,qs = sortBy (cR L) (pathsM L E 1 2 (3:Nat)).1:=⟨_,rfl⟩
   have hql:qs.length = (pathsM L E 1 2 (3:Nat)).1.length:=by rw [hqs,sortBy_len]
   have hqa:AscC (cR L) qs:=by rw [hqs]; exact sortBy_asc (cR_tot L) hnd
   have hqv:∀ p ∈ qs,validE L p = 0:=fun p hp=>hv p ((sortBy_mem (cR L)).1 (by rw [← hqs]; exact hp))
   rw [← hqs] at spT1 spT2
   simp only at spT1 spT2
   generalize (pathsM L E 1 2 (3:Nat)).1 = ps at *
   have hpl:=pthRows_len ps
   have hr1:=rteRows_len (rtsOf L qs)
   have hr2:=rteRows_len (rtsOf L (qs.take m))
   rw [rtsOf_len] at hr1 hr2
   have htk:(qs.take m).length = min m qs.length:=List.length_take
   have spS:=sameRtes_spec (rtsOf L (qs.take m)) (rtsOf L (qs.take m))
   rw [decide_eq_true rfl] at spS
   refine gEn env Tryz.func6 fun Γ hN hK hML=>?_
   (refine gGo ?_; intros)
   (refine gPC (spL) ?_; conv=>whnf)
   (refine gGo ?_; intros)
   (refine gCA [] [(5,70)] [] (roll_spec t) ?_; conv=>whnf)
   (refine gGo ?_; intros)
   (refine gCA [(0,70)] [] [] (spJ) ?_; conv=>whnf)
   (refine gGo ?_; intros)
   (refine gPC (spE) ?_; conv=>whnf)
   (refine gGo ?_; intros)
   (refine gPC (spT1) ?_; conv=>whnf)
   (refine gGo ?_; intros)
   (refine gPC (spM) ?_; conv=>whnf)
   (refine gGo ?_; intros)
   (refine gPC (spT2) ?_; conv=>whnf)
   (refine gGo ?_; intros)
   (refine gPC (spP) ?_; conv=>whnf)
   (refine gGo ?_; intros)
   (refine gPC (spM) ?_; conv=>whnf)
   (refine gGo ?_; intros)
   refine boolRes_split (fun hb=>?_) (fun hb=>?_) <;> conv=>whnf
   ·exfalso
    simp only at hb
    omega
   ·(refine gGo ?_; intros)
    refine ⟨rteRows_sz (rtsOf L qs),?_⟩
    conv=>whnf
    have hdr:((rteRows (rtsOf L qs)).take ((rteRows (rtsOf L (qs.take m))).length:Int).toNat).drop (0:Int).toNat = rteRows (rtsOf L (qs.take m)):=by
     show List.drop 0 _ = _
     rw [Int.toNat_natCast,List.drop_zero,hr2,htk]
     unfold rteRows rtsOf
     rw [← List.map_take,← List.map_take]
     congr 2
     rw [List.take_eq_take_iff]; omega
    rw [hdr]
    (refine gPC (spS) ?_; conv=>whnf)
    (refine gGo ?_; intros)
    refine W.loopG (fun n st=>∃ i:Nat,i ≤ qs.length ∧ n = qs.length - i ∧ st = ⟨[(6,.sl (tblRows L) false),(7,.sl (relRows E) false),(8,.sl (rteRows (rtsOf L qs)) false),(101,.sl (rteRows (rtsOf L qs)) false),(102,.int .i64 (rteRows (rtsOf L qs)).length),(103,.int .i64 (i:Nat))],[],[]⟩)
     qs.length _ ⟨0,by omega,by omega,rfl⟩ ⟨[],[],[],.mq .nil⟩ ?_
    rintro n st ⟨i,hi,rfl,rfl⟩
    (refine gGo ?_; intros)
    refine boolRes_split (fun hb=>?_) (fun hb=>?_) <;> conv=>whnf
    ·have hlt:i < qs.length:=by omega
     have hg:=rteRows_get (l:=rtsOf L qs) (i:=i) (by rw [rtsOf_len]; exact hlt)
     rw [show (rtsOf L qs)[i]'(by rw [rtsOf_len]; exact hlt) = rteOf L qs[i] by simp [rtsOf]] at hg
     have hpv:=hqv qs[i] (List.getElem_mem hlt)
     have sR:=report32_spec L qs[i]
     rw [repE_err,hpv] at sR
     have sC:=same_spec (repE L qs[i]).1 (repE L qs[i]).1
     rw [decide_eq_true rfl] at sC
     (refine gGo ?_; intros)
     refine rowAt_of (r:=(rteOf L qs[i]).row) (by simpa using hg) ?_
     conv=>whnf
     (refine gGo ?_; intros)
     (refine gPC (sR) ?_; conv=>whnf)
     (refine gGo ?_; intros)
     (refine gPC (sC) ?_; conv=>whnf)
     (refine gGo ?_; intros)
     refine boolRes_split (fun hb=>?_) (fun hb=>?_) <;> conv=>whnf
     ·obtain ⟨j,rfl⟩:∃ j:Nat,i = j + 1:=⟨i - 1,by omega⟩
      have hgj:=rteRows_get (l:=rtsOf L qs) (i:=j) (by rw [rtsOf_len]; omega)
      rw [show (rtsOf L qs)[j]'(by rw [rtsOf_len]; omega) = rteOf L (qs[j]'(by omega)) by simp [rtsOf]] at hgj
      have hlt2:cR L (qs[j]'(by omega)) qs[j + 1] < 0:=List.pairwise_iff_getElem.1 hqa j (j + 1) (by omega) hlt (by omega)
      have sD:=cmpRte_spec (rteOf L (qs[j]'(by omega))) (rteOf L qs[j + 1])
      rw [show rteC (rteOf L (qs[j]'(by omega))) (rteOf L qs[j + 1]) = cR L (qs[j]'(by omega)) qs[j + 1] from rfl] at sD
      generalize cR L (qs[j]'(by omega)) qs[j + 1] = c at *
      (refine gGo ?_; intros)
      refine rowAt_of (r:=(rteOf L (qs[j]'(by omega))).row) (by rw [show (((j + 1:Nat):Int) - 1).toNat = j by omega]; exact hgj) ?_
      conv=>whnf
      (refine gGo ?_; intros)
      (refine gPC (sD) ?_; conv=>whnf)
      (refine gGo ?_; intros)
      refine ⟨qs.length - (j + 1 + 1),_,by omega,⟨j + 1 + 1,by omega,rfl,rfl⟩,⟨[],[],[],.mq .nil⟩⟩
     ·(refine gGo ?_; intros)
      refine ⟨qs.length - (i + 1),_,by omega,⟨i + 1,by omega,rfl,rfl⟩,⟨[],[],[],.mq .nil⟩⟩
    ·(refine gGo ?_; intros)
     (refine gPC (spX) ?_; conv=>whnf)
     (refine gGo ?_; intros)
     (refine gPC (spF) ?_; conv=>whnf)
     (refine gGo ?_; intros)
     (refine gPC (spA) ?_; conv=>whnf)
     (refine gGr ?_; intros)
     exact ret0 rfl rfl rfl
  ·rw [topM_bad (by omega) he (by decide)] at spT1 spT2
   rw [he] at spP
   refine gEn env Tryz.func6 fun Γ hN hK hML=>?_
   (refine gGo ?_; intros)
   (refine gPC (spL) ?_; conv=>whnf)
   (refine gGo ?_; intros)
   (refine gCA [] [(5,70)] [] (roll_spec t) ?_; conv=>whnf)
   (refine gGo ?_; intros)
   (refine gCA [(0,70)] [] [] (spJ) ?_; conv=>whnf)
   (refine gGo ?_; intros)
   (refine gPC (spE) ?_; conv=>whnf)
   (refine gGo ?_; intros)
   (refine gPC (spT1) ?_; conv=>whnf)
   (refine gGo ?_; intros)
   (refine gPC (spM) ?_; conv=>whnf)
   (refine gGo ?_; intros)
   (refine gPC (spT2) ?_; conv=>whnf)
   (refine gGo ?_; intros)
   (refine gPC (spP) ?_; conv=>whnf)
   (refine gGo ?_; intros)
   (refine gPC (spA) ?_; conv=>whnf)
   (refine gGr ?_; intros)
   exact ret0 rfl rfl rfl
 ·rw [decide_eq_false hll] at spL
  refine gEn env Tryz.func6 fun Γ hN hK hML=>?_
  (refine gGo ?_; intros)
  (refine gPC (spL) ?_; conv=>whnf)
  (refine gGo ?_; intros)
  (refine gPC (spA) ?_; conv=>whnf)
  (refine gGr ?_; intros)
  exact ret0 rfl rfl rfl
end Go.Sx.Sp
namespace Go.Sx.Sp
open Go Go.Sx Go.Proofs
attribute [local irreducible] GoodW famL
theorem best_calls {w:World} {v0 v1:Value} {u0 u1:V} (r0:VRel w (fun _=>False) (fun _ _=>none) u0 v0) (r1:VRel w (fun _=>False) (fun _ _=>none) u1 v1)
  (a0:argShape T 2 22 u0) (a1:argShape T 1 3 u1) (hg:GRel w (fun _=>False)) :
  Calls Tryz.prog 6 #[v0,v1] w fun e w'=>e = .returned (.bool true) ∧ Go.RowKit.Below w.heap.size w w':=by
 obtain ⟨l,rfl⟩:=arg_ints a0
 obtain ⟨n,rfl,_⟩:=arg_int a1
 refine Spec.law (best_law l n) (cargs:=[v0,v1]) rfl (fun j u c hj hc=>?_) rfl hg
 match j with
 | 0=>cases hj; cases hc; exact r0
 | 1=>cases hj; cases hc; exact r1
 | j + 2=>cases hj
end Go.Sx.Sp
