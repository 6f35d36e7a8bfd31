/- The law of the routes back. -/
import Derived.Test.YtiokcnmokoonkaaGreatDoorJSix
import Derived.Test.YtiokcnmokoonkaaGreatDoorRtFive
import Derived.Test.YtiokcnmokoonkaaGreatDoorJFour
import Derived.Test.YtiokcnmokoonkaaGreatDoorSxFour
set_option linter.unusedVariables false
set_option linter.unusedSimpArgs false
namespace Go.Sx.Sp
open Go Go.Sx Go.Proofs
attribute [local irreducible] GoodW famL
end Go.Sx.Sp
namespace Go.Sx.Sp
open Go Go.Sx Go.Proofs
attribute [local irreducible] GoodW famL
end Go.Sx.Sp
namespace Go.Sx.Sp
open Go Go.Sx Go.Proofs Go.Sort
attribute [local irreducible] GoodW famL
end Go.Sx.Sp
namespace Go.Sx.Sp
open Go Go.Sx Go.Proofs
attribute [local irreducible] GoodW famL
end Go.Sx.Sp
namespace Go.Sx.Sp
open Go Go.Sx Go.Proofs
attribute [local irreducible] GoodW famL
end Go.Sx.Sp
namespace Go.Sx.Sp
open Go Go.Sx Go.Proofs Go.Sort
attribute [local irreducible] GoodW famL
def atT (p:Pth) (j:Nat):Int:=((p.steps.take j).map Stp.tt).getLastD p.start
theorem atT_mem (p:Pth) (j:Nat):atT p j ∈ befT p j:=by
 unfold atT befT
 generalize (p.steps.take j).map Stp.tt=l
 cases l with
 | nil=>exact List.mem_cons_self
 | cons a l=>rw [List.getLastD_eq_getLast?,List.getLast?_eq_some_getLast (by simp)]; exact List.mem_cons_of_mem _ (List.getLast_mem _)
theorem simL_chain {W:Int → List Stp} {dst from_:Int}:∀ (k:Nat) (way:List Stp) (at_:Int) (x:Pth),x ∈ simL W dst from_ k way at_ → at_=(way.map Stp.tt).getLastD from_ →
  (x.steps.map Stp.tt).getLastD from_=dst ∧ ∀ (j:Nat) s,x.steps[j]? = some s → way.length ≤ j → s ∈ W (atT x j) ∧ s.tt ∉ befT x j
 | 0,way,at_,x,hx,ha=>by
  unfold simL at hx
  split at hx
  ·rename_i hd
   simp only [List.mem_singleton] at hx
   subst hx
   refine ⟨by rw [← hd,ha],fun j s hj hl=>?_⟩
   rw [List.getElem?_eq_none hl] at hj; cases hj
  ·cases hx
 | k + 1,way,at_,x,hx,ha=>by
  unfold simL at hx
  split at hx
  ·rename_i hd
   simp only [List.mem_singleton] at hx
   subst hx
   refine ⟨by rw [← hd,ha],fun j s hj hl=>?_⟩
   rw [List.getElem?_eq_none hl] at hj; cases hj
  ·obtain ⟨s,hs,hx⟩:=List.mem_flatMap.1 hx
   split at hx
   ·cases hx
   ·rename_i hns
    obtain ⟨h1,⟨r,h2⟩,_⟩:=simL_pre k _ _ x hx
    obtain ⟨g1,g2⟩:=simL_chain k _ _ x hx (by rw [List.map_append,List.map_singleton,List.getLastD_concat])
    refine ⟨g1,fun j u hj hl=>?_⟩
    rcases Nat.lt_or_ge way.length j with h | h
    ·exact g2 j u hj (by rw [List.length_append,List.length_singleton]; omega)
    ·have e:j=way.length:=by omega
     subst e
     have e1:x.steps.take way.length=way:=by rw [← h2,List.append_assoc,List.take_left]
     have e2:x.steps[way.length]? = some s:=by rw [← h2,List.append_assoc,List.getElem?_append_right (Nat.le_refl _)]; simp
     rw [e2] at hj
     cases hj
     unfold atT befT
     rw [e1,h1,← ha]
     exact ⟨hs,hns⟩
theorem okE_rev {l:List Table} {s:Stp} (h:okE l s=true):(getC l s.ft s.fc).isSome=true ∧ (getC l s.tt s.tc).isSome=true:=by
 unfold okE at h
 simp only [Bool.and_eq_true] at h
 exact h.1
theorem wayW_get {l:List Table} {E:List Stp} {t:Int} {x:Stp} (h:x ∈ wayW l E t):(getC l x.ft x.fc).isSome=true ∧ (getC l x.tt x.tc).isSome=true:=by
 obtain ⟨s,_,h1,h2⟩:=wayW_mem.1 h
 have:=okE_rev h1
 rcases h2 with ⟨_,rfl⟩ | ⟨_,rfl⟩
 ·exact this
 ·exact ⟨this.2,this.1⟩
theorem routesL_valid {l:List Table} {E:List (List Int)} {from_ dst:Int} {k:Nat} {x:Pth} (hl:listB l=true) (hf:(findT l from_).isSome=true) (hk:k ≤ 4) (hx:x ∈ routesL l E from_ dst k) :
  validE l x=0 ∧ x.start=from_ ∧ x.steps.length ≤ k:=by
 have hx':x ∈ simL (wayW l (stpsE E)) dst from_ k [] from_:=hx
 obtain ⟨h1,_,h3⟩:=simL_pre _ _ _ _ hx'
 obtain ⟨_,g⟩:=simL_chain _ _ _ _ hx' rfl
 simp only [List.length_nil,Nat.zero_add] at h3
 refine ⟨?_,h1,h3⟩
 unfold validE
 rw [if_pos hl,if_pos (by omega),if_pos]
 refine pathB_true (h1 ▸ hf) fun j hj=>?_
 have hj':=List.getElem?_eq_getElem hj
 obtain ⟨a,b⟩:=g j _ hj' (Nat.zero_le _)
 have c:=wayW_get a
 have d:=wayW_ft a
 unfold stepOK
 rw [hj']
 simp only [Bool.and_eq_true,Bool.not_eq_true',decide_eq_true_eq,decide_eq_false_iff_not]
 exact ⟨c.1,c.2,by rw [d]; exact atT_mem x j,b⟩
theorem repE_err (l:List Table) (p:Pth):(repE l p).2=validE l p:=by
 unfold repE
 split
 ·rename_i h; exact h.symm
 ·rfl
theorem findT_J {L:List Table} (h:∀ k (hk:k < L.length),TabJ k L[k]) {n:Int}:(findT L n).isSome=true ↔ 1 ≤ n ∧ n ≤ L.length:=by
 unfold findT
 rw [List.find?_isSome]
 constructor
 ·rintro ⟨t,ht,hp⟩
  obtain ⟨k,hk,rfl⟩:=List.getElem_of_mem ht
  have:=(h k hk).id
  have:=of_decide_eq_true hp
  omega
 ·rintro ⟨h1,h2⟩
  have hk:n.toNat - 1 < L.length:=by omega
  refine ⟨L[n.toNat - 1],List.getElem_mem _,decide_eq_true ?_⟩
  have:=(h _ hk).id
  omega
theorem routeE_J {L:List Table} (h:∀ k (hk:k < L.length),TabJ k L[k]) (hl:L.length ≤ 100) {a b s:Int} (ha:1 ≤ a ∧ a ≤ L.length) (hb:1 ≤ b ∧ b ≤ L.length) (hs:0 ≤ s ∧ s ≤ 4):routeE L a b s=0:=by
 unfold routeE
 rw [if_pos (listB_J h hl),if_pos hs,if_pos]
 rw [(findT_J h).2 ha,(findT_J h).2 hb]; rfl
end Go.Sx.Sp
namespace Go.Sx.Sp
open Go Go.Sx Go.Proofs Go.Sort
attribute [local irreducible] GoodW famL
theorem simL_len {W:Int → List Stp} {dst from_:Int} {N:Nat} (h0:0 < N) (hN:∀ t,(W t).length ≤ N):∀ (k:Nat) (way:List Stp) (at_:Int),(simL W dst from_ k way at_).length ≤ N ^ k
 | 0,way,at_=>by unfold simL; split <;> simp
 | k + 1,way,at_=>by
  have hp:0 < N ^ (k + 1):=Nat.pow_pos h0
  unfold simL
  split
  ·rw [List.length_singleton]; exact hp
  ·have h1:=flat_le (fun s:Stp=>if s.tt ∈ from_ :: way.map Stp.tt then [] else simL W dst from_ k (way ++ [s]) s.tt) (N ^ k) (W at_) (fun s _=>by
    split
    ·simp
    ·exact simL_len h0 hN k _ _)
   have h2:(W at_).length * N ^ k ≤ N * N ^ k:=Nat.mul_le_mul_right _ (hN at_)
   rw [Nat.pow_succ,Nat.mul_comm]
   omega
theorem routes2_mem {W:Int → List Stp} {a b:Int} (hne:a ≠ b) {x:Pth}:x ∈ simL W b a 2 [] a ↔ (∃ s ∈ W a,s.tt=b ∧ x=⟨a,[s]⟩) ∨ ∃ s ∈ W a,s.tt ≠ a ∧ s.tt ≠ b ∧ ∃ u ∈ W s.tt,u.tt=b ∧ x=⟨a,[s,u]⟩:=by
 unfold simL
 rw [if_neg hne]
 simp only [List.mem_flatMap,List.map_nil,List.mem_singleton,List.nil_append]
 constructor
 ·rintro ⟨s,hs,hx⟩
  split at hx
  ·cases hx
  ·rename_i ha
   unfold simL at hx
   split at hx
   ·rename_i h
    exact .inl ⟨s,hs,h,by simpa using hx⟩
   ·rename_i hb
    obtain ⟨u,hu,hx⟩:=List.mem_flatMap.1 hx
    split at hx
    ·cases hx
    ·unfold simL at hx
     split at hx
     ·rename_i h
      exact .inr ⟨s,hs,ha,hb,u,hu,h,by simpa using hx⟩
     ·cases hx
 ·rintro (⟨s,hs,h,rfl⟩ | ⟨s,hs,ha,hb,u,hu,h,rfl⟩)
  ·refine ⟨s,hs,?_⟩
   rw [if_neg (by rw [h]; exact fun e=>hne e.symm)]
   unfold simL
   rw [if_pos h]; simp
  ·refine ⟨s,hs,?_⟩
   rw [if_neg ha]
   unfold simL
   rw [if_neg hb,List.mem_flatMap]
   refine ⟨u,hu,?_⟩
   rw [if_neg (by rw [h]; simp only [List.map_cons,List.map_nil,List.mem_cons,List.not_mem_nil,or_false]; exact fun e=>e.elim (fun e=>hne e.symm) fun e=>hb e.symm)]
   unfold simL
   rw [if_pos h]; simp
def turnP (x:Pth):Pth:=⟨atT x x.steps.length,x.steps.reverse.map revS⟩
theorem turnP_1 (a:Int) (s:Stp):turnP ⟨a,[s]⟩=⟨s.tt,[revS s]⟩:=rfl
theorem turnP_2 (a:Int) (s u:Stp):turnP ⟨a,[s,u]⟩=⟨u.tt,[revS u,revS s]⟩:=rfl
theorem routes2_turn {W:Int → List Stp} {a b:Int} (hne:a ≠ b) (hft:∀ t,∀ s ∈ W t,s.ft=t) (hsym:∀ t,∀ s ∈ W t,revS s ∈ W s.tt) {x:Pth} (h:x ∈ simL W b a 2 [] a):turnP x ∈ simL W a b 2 [] b ∧ turnP (turnP x)=x:=by
 rcases (routes2_mem hne).1 h with ⟨s,hs,hb,rfl⟩ | ⟨s,hs,ha,hb,u,hu,hub,rfl⟩
 ·rw [turnP_1,turnP_1]
  refine ⟨(routes2_mem (Ne.symm hne)).2 (.inl ⟨revS s,hb ▸ hsym _ _ hs,hft _ _ hs,by rw [hb]⟩),?_⟩
  rw [revS_rev,show (revS s).tt=a from hft _ _ hs]
 ·rw [turnP_2,turnP_2]
  refine ⟨(routes2_mem (Ne.symm hne)).2 (.inr ⟨revS u,hub ▸ hsym _ _ hu,?_,?_,revS s,?_,hft _ _ hs,by rw [hub]⟩),?_⟩
  ·show u.ft ≠ b; rw [hft _ _ hu]; exact hb
  ·show u.ft ≠ a; rw [hft _ _ hu]; exact ha
  ·show revS s ∈ W u.ft; rw [hft _ _ hu]; exact hsym _ _ hs
  ·rw [revS_rev,revS_rev,show (revS s).tt=a from hft _ _ hs]
theorem routes2_len {W:Int → List Stp} {a b:Int} (hne:a ≠ b) (hft:∀ t,∀ s ∈ W t,s.ft=t) (hsym:∀ t,∀ s ∈ W t,revS s ∈ W s.tt) (hnd:∀ t,(W t).Nodup):(simL W b a 2 [] a).length=(simL W a b 2 [] b).length:=by
 have key:∀ {a b:Int},a ≠ b → (simL W b a 2 [] a).length ≤ (simL W a b 2 [] b).length:=fun {a b} hne=>by
  have h1:((simL W b a 2 [] a).map turnP).Nodup:=by
   rw [List.nodup_iff_pairwise_ne,List.pairwise_map]
   refine List.Pairwise.imp_of_mem (fun {x y} hx hy hxy e=>hxy ?_) (List.nodup_iff_pairwise_ne.1 (simL_nodup hnd 2 [] a))
   rw [← (routes2_turn hne hft hsym hx).2,← (routes2_turn hne hft hsym hy).2,e]
  have h2:=h1.length_le_of_subset (l₂:=simL W a b 2 [] b) (fun y hy=>by
   obtain ⟨x,hx,rfl⟩:=List.mem_map.1 hy
   exact (routes2_turn hne hft hsym hx).1)
  rwa [List.length_map] at h2
 exact Nat.le_antisymm (key hne) (key (Ne.symm hne))
def fitT (A:Table) (a:Int) (x:Nat) (B:Table) (b:Int) (y:Nat):Bool:=fitC (cellT A a.toNat x) (cellT B b.toNat y)
theorem fitT_symm (A:Table) (a:Int) (x:Nat) (B:Table) (b:Int) (y:Nat):fitT A a x B b y=fitT B b y A a x:=fitC_symm _ _
theorem rows_1 {l:List Table} {s t a b:Int} (hv:validE l ⟨s,[⟨s,a,t,b⟩]⟩=0):(repE l ⟨s,[⟨s,a,t,b⟩]⟩).1.rows=sumTo (rowsN (tabOf l s)) fun x=>sumTo (rowsN (tabOf l t)) fun y=>if fitT (tabOf l s) a x (tabOf l t) b y=true then 1 else 0:=by
 rw [(rep_eq hv).2.1]
 have p0:parI ⟨s,[⟨s,a,t,b⟩]⟩ 0=0:=by unfold parI placeI befT stpAt; simp [ixI]
 have k0:kidsL ⟨s,[⟨s,a,t,b⟩]⟩ 1 0=[1]:=by unfold kidsL; simp [List.range_succ,p0]
 have k1:kidsL ⟨s,[⟨s,a,t,b⟩]⟩ 1 1=[]:=by unfold kidsL; simp [List.range_succ,p0]
 refine sumTo_congr fun x hx=>?_
 rw [cnt_one (i:=0) (k:=1) (Nat.zero_le _) hx k0,fitS_leaf (k:=1) (Nat.le_refl _) k1]
 rfl
theorem rows_2 {l:List Table} {s m t a b c e:Int} (hsm:s ≠ m) (hv:validE l ⟨s,[⟨s,a,m,b⟩,⟨m,c,t,e⟩]⟩=0):(repE l ⟨s,[⟨s,a,m,b⟩,⟨m,c,t,e⟩]⟩).1.rows =
  sumTo (rowsN (tabOf l m)) fun y=>(sumTo (rowsN (tabOf l t)) fun z=>if fitT (tabOf l m) c y (tabOf l t) e z=true then 1 else 0) * (sumTo (rowsN (tabOf l s)) fun x=>if fitT (tabOf l s) a x (tabOf l m) b y=true then 1 else 0):=by
 rw [(rep_eq hv).2.1]
 have p0:parI ⟨s,[⟨s,a,m,b⟩,⟨m,c,t,e⟩]⟩ 0=0:=by unfold parI placeI befT stpAt; simp [ixI]
 have p1:parI ⟨s,[⟨s,a,m,b⟩,⟨m,c,t,e⟩]⟩ 1=1:=by unfold parI placeI befT stpAt; simp [ixI,Ne.symm hsm]
 have k0:kidsL ⟨s,[⟨s,a,m,b⟩,⟨m,c,t,e⟩]⟩ 2 0=[1]:=by unfold kidsL; simp [List.range_succ,p0,p1]
 have k1:kidsL ⟨s,[⟨s,a,m,b⟩,⟨m,c,t,e⟩]⟩ 2 1=[2]:=by unfold kidsL; simp [List.range_succ,p0,p1]
 have k2:kidsL ⟨s,[⟨s,a,m,b⟩,⟨m,c,t,e⟩]⟩ 2 2=[]:=by unfold kidsL; simp [List.range_succ,p0,p1]
 have e1:∀ y,y < rowsN (tabOf l m) → cntI l ⟨s,[⟨s,a,m,b⟩,⟨m,c,t,e⟩]⟩ 1 y=sumTo (rowsN (tabOf l t)) fun z=>if fitT (tabOf l m) c y (tabOf l t) e z=true then 1 else 0:=fun y hy=>by
  rw [cnt_one (l:=l) (p:=⟨s,[⟨s,a,m,b⟩,⟨m,c,t,e⟩]⟩) (i:=1) (k:=2) (show 1 ≤ 2 by decide) hy k1,fitS_leaf (l:=l) (p:=⟨s,[⟨s,a,m,b⟩,⟨m,c,t,e⟩]⟩) (k:=2) (Nat.le_refl _) k2]; rfl
 have e0:∀ x,x < rowsN (tabOf l s) → cntI l ⟨s,[⟨s,a,m,b⟩,⟨m,c,t,e⟩]⟩ 0 x=sumTo (rowsN (tabOf l m)) fun y=>if fitT (tabOf l s) a x (tabOf l m) b y=true then (sumTo (rowsN (tabOf l t)) fun z=>if fitT (tabOf l m) c y (tabOf l t) e z=true then 1 else 0) else 0:=fun x hx=>by
  rw [cnt_one (i:=0) (k:=1) (Nat.zero_le _) hx k0]
  unfold fitS
  exact sumTo_congr fun y hy=>by rw [e1 y hy]; rfl
 refine (sumTo_congr e0).trans ?_
 rw [sumTo_comm]
 exact sumTo_congr fun y hy=>sum_if _ (fun x=>fitT (tabOf l s) a x (tabOf l m) b y) _
theorem rows_turn {l:List Table} {W:Int → List Stp} {a b:Int} (hne:a ≠ b) (hft:∀ t,∀ s ∈ W t,s.ft=t) {x:Pth} (h:x ∈ simL W b a 2 [] a) (hv:validE l x=0) (hv':validE l (turnP x)=0):(repE l x).1.rows=(repE l (turnP x)).1.rows:=by
 rcases (routes2_mem hne).1 h with ⟨s,hs,hb,rfl⟩ | ⟨s,hs,ha,hb,u,hu,hub,rfl⟩
 ·rw [turnP_1] at *
  obtain ⟨s1,s2,s3,s4⟩:=s
  obtain rfl:s1=a:=hft _ _ hs
  have e:revS ⟨s1,s2,s3,s4⟩=⟨s3,s4,s1,s2⟩:=rfl
  rw [e] at *
  rw [rows_1 hv,rows_1 hv',sumTo_comm]
  exact sumTo_congr fun y hy=>sumTo_congr fun x hx=>by rw [fitT_symm]
 ·rw [turnP_2] at *
  obtain ⟨s1,s2,s3,s4⟩:=s
  obtain ⟨u1,u2,u3,u4⟩:=u
  obtain rfl:s1=a:=hft _ _ hs
  obtain rfl:u1=s3:=hft _ _ hu
  obtain rfl:u3=b:=hub
  have e:revS ⟨s1,s2,u1,s4⟩=⟨u1,s4,s1,s2⟩:=rfl
  have e':revS ⟨u1,u2,u3,u4⟩=⟨u3,u4,u1,u2⟩:=rfl
  rw [e,e'] at *
  rw [rows_2 (Ne.symm ha) hv,rows_2 (Ne.symm hb) hv']
  refine sumTo_congr fun y hy=>?_
  rw [Int.mul_comm]
  congr 1
  ·exact sumTo_congr fun x hx=>by rw [fitT_symm]
  ·exact sumTo_congr fun x hx=>by rw [fitT_symm]
theorem pathsM_all {l:List Table} {E:List (List Int)} {a b:Int} {k:Nat} (hne:a ≠ b) (h0:routeE l a b k=0) (hl:(routesL l E a b k).length ≤ 1024):pathsM l E a b k=(sortBy ordC (routesL l E a b k),0):=by
 have e:findP l E a b k 1024=sortBy ordC (routesL l E a b k):=by rw [findP_eq hne,List.take_of_length_le (by omega)]
 unfold pathsM
 rw [if_pos h0,Int.toNat_natCast,e,if_pos (by rw [sortBy_len]; exact hl)]
theorem edges_few3 {l:List Table} (h:∀ b ∈ l,b.cols.length ≤ 2) (hl:l.length ≤ 3):(edges l).length ≤ 24:=by
 have h1:∀ k n,(edgeA l k n).length ≤ n * 4:=fun k n=>by
  have:=flat_le (fun i=>edgeR (l.getD k Table.zero) i (l.drop (k + 1))) 4 (List.range n) (fun i _=>by
   have:=flat_le (fun b:Table=>edgeB (l.getD k Table.zero) i b b.cols.length) 2 (l.drop (k + 1)) fun b hb=>Nat.le_trans (edgeB_len _ i b _) (h b (List.mem_of_mem_drop hb))
   rw [List.length_drop] at this
   show (edgeR (l.getD k Table.zero) i (l.drop (k + 1))).length ≤ 4
   unfold edgeR
   omega)
  rwa [List.length_range] at this
 have:=flat_le (fun k=>edgeA l k (l.getD k Table.zero).cols.length) 8 (List.range l.length) (fun k hk=>by
  have hk:=List.mem_range.1 hk
  have h1:=h1 k (l.getD k Table.zero).cols.length
  have h2:(l.getD k Table.zero).cols.length ≤ 2:=by
   rw [List.getD_eq_getElem?_getD,List.getElem?_eq_getElem (show k < l.length by omega)]
   exact h _ (List.getElem_mem _)
  show (edgeA l k (l.getD k Table.zero).cols.length).length ≤ 8
  omega)
 rw [List.length_range] at this
 show (edgeL l l.length).length ≤ 24
 unfold edgeL
 omega
theorem routes_few {l:List Table} {E:List (List Int)} {a b:Int} {k:Nat} (hk:k ≤ 2) (hE:E.length ≤ 24):(routesL l E a b k).length ≤ 1024:=by
 have h1:=simL_len (W:=wayW l (stpsE E)) (dst:=b) (from_:=a) (N:=24) (by decide) (fun t=>Nat.le_trans (wayW_len l (stpsE E) t) (by unfold stpsE; rw [List.length_map]; exact hE)) k [] a
 have h2:24 ^ k ≤ 24 ^ 2:=Nat.pow_le_pow_right (by decide) hk
 have h3:(24:Nat) ^ 2=576:=by decide
 show (simL (wayW l (stpsE E)) b a k [] a).length ≤ 1024
 omega
end Go.Sx.Sp
namespace Go.Sx.Sp
open Go Go.Sx Go.Proofs Go.Sort
attribute [local irreducible] GoodW famL
theorem back_plain {L:List Table} {E:List (List Int)} (hlist:listB L=true) (h1:(findT L 1).isSome=true) (h2:(findT L 2).isSome=true) {x:Pth} (hx:x ∈ routesL L E 1 2 2) :
  (validE L x=0 ∧ validE L (turnP x)=0) ∧ turnP x ∈ routesL L E 2 1 2 ∧ turnP x=⟨2,x.steps.reverse.map revS⟩ ∧ (repE L x).1.rows=(repE L (turnP x)).1.rows:=by
 have ht:=(routes2_turn (W:=wayW L (stpsE E)) (a:=1) (b:=2) (by decide) (fun t s hs=>wayW_ft hs) (fun t s hs=>wayW_sym hs) hx).1
 have v1:=(routesL_valid hlist h1 (by decide) hx).1
 have v2:=routesL_valid (x:=turnP x) hlist h2 (by decide) ht
 refine ⟨⟨v1,v2.1⟩,ht,?_,rows_turn (by decide) (fun t s hs=>wayW_ft hs) hx v1 v2.1⟩
 have:=v2.2.1
 unfold turnP at *
 simp only at this
 rw [this]
set_option maxHeartbeats 16000000 in
theorem back_law (t:List Int):Spec Tryz.prog 7 [.sl (intRows .i64 t) false] [] (.bool true) []:=by
 have hl:=intRows_len .i64 t
 have spL:=light_spec t
 have spA:=awake33_spec
 by_cases hll:t.length ≤ 500
 ·rw [decide_eq_true hll] at spL
  obtain ⟨⟨j1,j2⟩,j3,j4⟩:=joined_ok (l:=t) (most:=3) (p:=0) (by omega) (Nat.zero_le _)
  have spJ:=joined_spec t 3 0 (by omega) (Nat.zero_le _)
  generalize (joinedF t 3 0).1=L at *
  generalize (joinedF t 3 0).2=q at *
  have j2:L.length ≤ 3:=j2
  have hlist:=listB_J j3 (by omega)
  have hsm:=listB_small hlist
  have spE:=edges_spec L hlist (by omega)
  have hE11:=edges_11 L
  have hEf:=edges_few3 (l:=L) (fun b hb=>by obtain ⟨k,hk,rfl⟩:=List.getElem_of_mem hb; exact (j3 k hk).few.2) (by omega)
  generalize edges L=E at *
  have spP:=paths33_spec L E 1 2 (2:Nat) hsm hE11 (by omega)
  have spQ:=paths33_spec L E 2 1 (2:Nat) hsm hE11 (by omega)
  rw [pathsM_all (by decide) (routeE_J j3 (by omega) (by omega) (by omega) (by omega)) (routes_few (by decide) hEf)] at spP spQ
  have hlen:(sortBy ordC (routesL L E 1 2 2)).length=(sortBy ordC (routesL L E 2 1 2)).length:=by
   rw [sortBy_len,sortBy_len]
   exact routes2_len (W:=wayW L (stpsE E)) (a:=1) (b:=2) (by decide) (fun t s hs=>wayW_ft hs) (fun t s hs=>wayW_sym hs) (fun t=>wayW_nd stepC_tot L (stpsE E) t)
  have hall:∀ x ∈ sortBy ordC (routesL L E 1 2 2),(validE L x=0 ∧ validE L (turnP x)=0) ∧ turnP x ∈ sortBy ordC (routesL L E 2 1 2) ∧ turnP x=⟨2,x.steps.reverse.map revS⟩ ∧ (repE L x).1.rows=(repE L (turnP x)).1.rows:=fun x hx=>by
   rw [sortBy_mem] at hx ⊢
   exact back_plain hlist ((findT_J j3).2 (by omega)) ((findT_J j3).2 (by omega)) hx
  have hst:∀ x ∈ sortBy ordC (routesL L E 1 2 2),x.steps.length ≤ 2:=fun x hx=>by
   rw [sortBy_mem] at hx
   exact (routesL_valid hlist ((findT_J j3).2 (by omega)) (by decide) hx).2.2
  generalize sortBy ordC (routesL L E 1 2 2)=P at *
  generalize sortBy ordC (routesL L E 2 1 2)=Q at *
  simp only at spP spQ
  have hpl:=pthRows_len P
  have hql:=pthRows_len Q
  have hLl:=tblRows_len L
  refine gEn env Tryz.func7 fun Γ hN hK hML=>?_
  (refine gGo ?_; intros)
  (refine gPC (spL) ?_; conv=>whnf)
  (refine gGo ?_; intros)
  (refine gCA [] [(5,70)] [] (roll_spec t) ?_; conv=>whnf)
  (refine gGo ?_; intros)
  (refine gCA [(0,70)] [] [] (spJ) ?_; conv=>whnf)
  (refine gGo ?_; intros)
  (refine gPC (spE) ?_; conv=>whnf)
  (refine gGo ?_; intros)
  (refine gPC (spP) ?_; conv=>whnf)
  (refine gGo ?_; intros)
  (refine gPC (spQ) ?_; conv=>whnf)
  (refine gGo ?_; intros)
  refine W.loopG (fun n st=>∃ i:Nat,i ≤ P.length ∧ n=P.length - i ∧ st=⟨[(4,.sl (tblRows L) false),(6,.sl (pthRows P) false),(8,.sl (pthRows Q) false),(56,.sl (pthRows P) false),(57,.int .i64 (pthRows P).length),(58,.int .i64 (i:Nat))],[],[]⟩)
   P.length _ ⟨0,by omega,by omega,rfl⟩ ⟨[],[],[],.mq .nil⟩ ?_
  rintro n st ⟨i,hi,rfl,rfl⟩
  (refine gGo ?_; intros)
  refine boolRes_split (fun hb=>?_) (fun hb=>?_) <;> conv=>whnf
  ·have hlt:i < P.length:=by omega
   have hg:=pthRows_get hlt
   obtain ⟨⟨v1,v2⟩,hm,hT,hR⟩:=hall P[i] (List.getElem_mem hlt)
   have hs2:=hst P[i] (List.getElem_mem hlt)
   have sR1:=report32_spec L P[i]
   have sR2:=report32_spec L (turnP P[i])
   rw [repE_err,v1] at sR1
   rw [repE_err,v2] at sR2
   generalize P[i]=x at *
   have hsl:=stpRows_len x.steps
   (refine gGo ?_; intros)
   refine rowAt_of (r:=x.row) (by simpa using hg) ?_
   conv=>whnf
   (refine gGo ?_; intros)
   refine W.ownCell 12 0 1 93 4 rfl rfl rfl rfl rfl ?_
   refine W.loopG (fun n st=>∃ (d:Nat) (e:Int) (S:List Stp),d ≤ x.steps.length ∧ e=(x.steps.length:Int) - 1 - d ∧ S=(x.steps.reverse.map revS).take d ∧ n=x.steps.length - d ∧ st=⟨[(4,.sl (tblRows L) false),(6,.sl (pthRows P) false),(8,.sl (pthRows Q) false),(56,.sl (pthRows P) false),(57,.int .i64 (pthRows P).length),(58,.int .i64 (i:Nat)),(11,.bp 11 0),(12,.bp 12 0),(13,.int .i64 e)],[(11,[.rows 2 [x.row] none]),(12,[.rows 2 [[.int .i64 2,.osl 93 0 0 (stpRows (S)).length (stpRows (S)).length]] none]),(93,[.rows 4 (stpRows (S)) (some [])])],[11,12,93]⟩)
    x.steps.length _ ⟨0,((stpRows x.steps).length:Int) - 1,[],by omega,by rw [hsl]; omega,by simp,by omega,rfl⟩ ⟨[(11,11),(12,12),(93,93)],[],[],.mq (.ci 11 (.ci 12 (.ci 93 .nil)))⟩ ?_
   rintro n st ⟨d,e,S,hd,he,hS,rfl,rfl⟩
   (refine gGo ?_; intros)
   refine boolRes_split (fun hb=>?_) (fun hb=>?_) <;> conv=>whnf
   ·have hdl:d < x.steps.length:=by omega
    have heN:e.toNat=x.steps.length - 1 - d:=by omega
    have hg2:=stpRows_get (show x.steps.length - 1 - d < x.steps.length by omega)
    have hSn:(x.steps.reverse.map revS).take (d + 1)=S ++ [revS (x.steps[x.steps.length - 1 - d]'(by omega))]:=by
     rw [hS,List.take_succ_eq_append_getElem (by simpa using hdl)]
     congr 1
     simp
    generalize (x.steps[x.steps.length - 1 - d]'(by omega))=s at *
    have hSl:S.length=d:=by rw [hS,List.length_take,List.length_map,List.length_reverse]; omega
    have hSr:=stpRows_len S
    (refine gGo ?_; intros)
    refine rowAt_of (r:=s.row) (by rw [heN]; exact hg2) ?_
    conv=>whnf
    (refine gGo ?_; intros)
    refine rowAt_of (r:=s.row) (by rw [heN]; exact hg2) ?_
    conv=>whnf
    (refine gGo ?_; intros)
    refine ⟨⟨rowsSz_cons rfl rowsSz_nil,rfl⟩,fitsN (n:=(stpRows S).length + 1) (b:=32) (by omega) (by omega),.inl ⟨rfl,rfl,?_⟩⟩
    conv=>whnf
    (refine gGo ?_; intros)
    refine ⟨_,_,?_,⟨d + 1,_,S ++ [revS s],by omega,?_,hSn.symm,rfl,rfl⟩,[(11,11),(12,12),(93,93)],[],[],LeG.mq (.ci 11 (.cons 12 rfl rfl (.refl _) ?_ (.cons 93 rfl rfl (.refl _) ?_ .nil)))⟩
    ·omega
    ·omega
    ·rw [stpRows_snoc,List.length_append]; rfl
    ·rw [stpRows_snoc]; rfl
   ·have hde:d=x.steps.length:=by omega
    have hSe:S=x.steps.reverse.map revS:=by rw [hS,hde,List.take_of_length_le (by simp)]
    rw [← hSe] at hT
    rw [hT] at hm hR sR2
    (refine gGo ?_; intros)
    refine W.leG (mp:=[(11,11),(12,12)]) (bo:=[93]) (st':=⟨[(4,.sl (tblRows L) false),(6,.sl (pthRows P) false),(8,.sl (pthRows Q) false),(56,.sl (pthRows P) false),(57,.int .i64 (pthRows P).length),(58,.int .i64 (i:Nat)),(11,.bp 11 0),(12,.bp 12 0),(14,.bool false),(89,.sl (pthRows Q) false),(90,.int .i64 (pthRows Q).length),(91,.int .i64 0)],[(11,[.rows 2 [x.row] none]),(12,[.rows 2 [Pth.row ⟨2,S⟩] none])],[11,12]⟩)
     (LeG.mq (.ci 11 (.cons 12 (b1:=.rows 2 [Pth.row ⟨2,S⟩] none) rfl rfl (.rows _ _ _ (by repeat' (first | exact trivial | exact ⟨Lent.refl _,rfl⟩ | exact ⟨Lent.norm _,rfl⟩ | exact ⟨Lent.whole rfl rfl (by first | rfl | exact List.length_append.symm | exact hlenR | simp) rfl (by first | exact .inl rfl | exact .inr rfl),rfl⟩ | apply And.intro))) rfl .nil))) ?_
    refine W.loopG (fun n st=>∃ (j:Nat) (f:Bool),j ≤ Q.length ∧ f=decide ((⟨2,S⟩:Pth) ∈ Q.take j) ∧ n=Q.length - j ∧ st=⟨[(4,.sl (tblRows L) false),(6,.sl (pthRows P) false),(8,.sl (pthRows Q) false),(56,.sl (pthRows P) false),(57,.int .i64 (pthRows P).length),(58,.int .i64 (i:Nat)),(11,.bp 11 0),(12,.bp 12 0),(14,.bool f),(89,.sl (pthRows Q) false),(90,.int .i64 (pthRows Q).length),(91,.int .i64 (j:Nat))],[(11,[.rows 2 [x.row] none]),(12,[.rows 2 [Pth.row ⟨2,S⟩] none])],[11,12]⟩)
     Q.length _ ⟨0,false,by omega,by simp,by omega,rfl⟩ ⟨[(11,11),(12,12)],[],[],.mq (.ci 11 (.ci 12 .nil))⟩ ?_
    rintro n st ⟨j,f,hj,hf,rfl,rfl⟩
    (refine gGo ?_; intros)
    refine boolRes_split (fun hb=>?_) (fun hb=>?_) <;> conv=>whnf
    ·have hlj:j < Q.length:=by omega
     have hgj:=pthRows_get hlj
     have htk:Q.take (j + 1)=Q.take j ++ [Q[j]]:=List.take_succ_eq_append_getElem hlj
     have spS:=samePath_spec Q[j] ⟨2,S⟩
     generalize Q[j]=y at *
     cases f with
     | true =>
      (refine gGo ?_; intros)
      refine rowAt_of (r:=y.row) (by simpa using hgj) ?_
      conv=>whnf
      (refine gGo ?_; intros)
      refine ⟨Q.length - (j + 1),_,by omega,⟨j + 1,true,by omega,?_,rfl,rfl⟩,⟨[(11,11),(12,12)],[],[],.mq (.ci 11 (.ci 12 .nil))⟩⟩
      rw [htk]
      exact (decide_eq_true (List.mem_append_left _ (of_decide_eq_true hf.symm))).symm
     | false =>
      have hn:=of_decide_eq_false hf.symm
      (refine gGo ?_; intros)
      refine rowAt_of (r:=y.row) (by simpa using hgj) ?_
      conv=>whnf
      (refine gGo ?_; intros)
      (refine gPC (spS) ?_; conv=>whnf)
      (refine gGo ?_; intros)
      refine ⟨Q.length - (j + 1),_,by omega,⟨j + 1,_,by omega,?_,rfl,rfl⟩,⟨[(11,11),(12,12)],[],[],.mq (.ci 11 (.ci 12 .nil))⟩⟩
      rw [htk,decide_eq_decide,List.mem_append,List.mem_singleton]
      exact ⟨fun h=>.inr h.symm,fun h=>h.elim (fun h=>absurd h hn) fun h=>h.symm⟩
    ·have hje:j=Q.length:=by omega
     rw [hje,List.take_length,decide_eq_true hm] at hf
     subst hf
     generalize (repE L x).1=r1 at *
     generalize (repE L ⟨2,S⟩).1=r2 at *
     (refine gGo ?_; intros)
     (refine gPC (sR1) ?_; conv=>whnf)
     (refine gGo ?_; intros)
     (refine gPC (sR2) ?_; conv=>whnf)
     (refine gGo ?_; intros)
     refine ⟨P.length - (i + 1),_,by omega,⟨i + 1,by omega,rfl,rfl⟩,⟨[],[],[],.mq .nil⟩⟩
  ·(refine gGo ?_; intros)
   (refine gPC (spA) ?_; conv=>whnf)
   (refine gGr ?_; intros)
   exact ret0 rfl rfl rfl
 ·rw [decide_eq_false hll] at spL
  refine gEn env Tryz.func7 fun Γ hN hK hML=>?_
  (refine gGo ?_; intros)
  (refine gPC (spL) ?_; conv=>whnf)
  (refine gGo ?_; intros)
  (refine gPC (spA) ?_; conv=>whnf)
  (refine gGr ?_; intros)
  exact ret0 rfl rfl rfl
end Go.Sx.Sp
namespace Go.Sx.Sp
open Go Go.Sx Go.Proofs
attribute [local irreducible] GoodW famL
theorem back_calls {w:World} {v0:Value} {u0:V} (r0:VRel w (fun _=>False) (fun _ _=>none) u0 v0)
  (a0:argShape T 2 22 u0) (hg:GRel w (fun _=>False)) :
  Calls Tryz.prog 7 #[v0] w fun e w'=>e=.returned (.bool true) ∧ Go.RowKit.Below w.heap.size w w':=by
 obtain ⟨l,rfl⟩:=arg_ints a0
 refine Spec.law (back_law l) (cargs:=[v0]) rfl (fun j u c hj hc=>?_) rfl hg
 match j with
 | 0=>cases hj; cases hc; exact r0
 | j + 1=>cases hj
end Go.Sx.Sp
