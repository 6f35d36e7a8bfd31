/- The law of all routes. -/
import Derived.Test.YtiokcnmokoonkaaGreatDoorJSix
import Derived.Test.YtiokcnmokoonkaaGreatDoorRtFive
import Derived.Test.YtiokcnmokoonkaaGreatDoorJFour
import Derived.Test.YtiokcnmokoonkaaGreatDoorSxFive
import Derived.Test.YtiokcnmokoonkaaGreatDoorSxFour
set_option linter.unusedVariables false
set_option linter.unusedSimpArgs false
namespace Go.Sx.Sp
open Go Go.Sx Go.Proofs
attribute [local irreducible] GoodW famL
end Go.Sx.Sp
namespace Go.Sx.Sp
open Go Go.Sx Go.Proofs
attribute [local irreducible] GoodW famL
end Go.Sx.Sp
namespace Go.Sx.Sp
open Go Go.Sx Go.Proofs Go.Sort
attribute [local irreducible] GoodW famL
end Go.Sx.Sp
namespace Go.Sx.Sp
open Go Go.Sx Go.Proofs
attribute [local irreducible] GoodW famL
end Go.Sx.Sp
namespace Go.Sx.Sp
open Go Go.Sx Go.Proofs
attribute [local irreducible] GoodW famL
end Go.Sx.Sp
namespace Go.Sx.Sp
open Go Go.Sx Go.Proofs Go.Sort
attribute [local irreducible] GoodW famL
def atT (p:Pth) (j:Nat):Int:=((p.steps.take j).map Stp.tt).getLastD p.start
theorem atT_mem (p:Pth) (j:Nat):atT p j ∈ befT p j:=by
 unfold atT befT
 generalize (p.steps.take j).map Stp.tt=l
 cases l with
 | nil=>exact List.mem_cons_self
 | cons a l=>rw [List.getLastD_eq_getLast?,List.getLast?_eq_some_getLast (by simp)]; exact List.mem_cons_of_mem _ (List.getLast_mem _)
theorem simL_chain {W:Int → List Stp} {dst from_:Int}:∀ (k:Nat) (way:List Stp) (at_:Int) (x:Pth),x ∈ simL W dst from_ k way at_ → at_=(way.map Stp.tt).getLastD from_ →
  (x.steps.map Stp.tt).getLastD from_=dst ∧ ∀ (j:Nat) s,x.steps[j]? = some s → way.length ≤ j → s ∈ W (atT x j) ∧ s.tt ∉ befT x j
 | 0,way,at_,x,hx,ha=>by
  unfold simL at hx
  split at hx
  ·rename_i hd
   simp only [List.mem_singleton] at hx
   subst hx
   refine ⟨by rw [← hd,ha],fun j s hj hl=>?_⟩
   rw [List.getElem?_eq_none hl] at hj; cases hj
  ·cases hx
 | k + 1,way,at_,x,hx,ha=>by
  unfold simL at hx
  split at hx
  ·rename_i hd
   simp only [List.mem_singleton] at hx
   subst hx
   refine ⟨by rw [← hd,ha],fun j s hj hl=>?_⟩
   rw [List.getElem?_eq_none hl] at hj; cases hj
  ·obtain ⟨s,hs,hx⟩:=List.mem_flatMap.1 hx
   split at hx
   ·cases hx
   ·rename_i hns
    obtain ⟨h1,⟨r,h2⟩,_⟩:=simL_pre k _ _ x hx
    obtain ⟨g1,g2⟩:=simL_chain k _ _ x hx (by rw [List.map_append,List.map_singleton,List.getLastD_concat])
    refine ⟨g1,fun j u hj hl=>?_⟩
    rcases Nat.lt_or_ge way.length j with h | h
    ·exact g2 j u hj (by rw [List.length_append,List.length_singleton]; omega)
    ·have e:j=way.length:=by omega
     subst e
     have e1:x.steps.take way.length=way:=by rw [← h2,List.append_assoc,List.take_left]
     have e2:x.steps[way.length]? = some s:=by rw [← h2,List.append_assoc,List.getElem?_append_right (Nat.le_refl _)]; simp
     rw [e2] at hj
     cases hj
     unfold atT befT
     rw [e1,h1,← ha]
     exact ⟨hs,hns⟩
theorem okE_rev {l:List Table} {s:Stp} (h:okE l s=true):(getC l s.ft s.fc).isSome=true ∧ (getC l s.tt s.tc).isSome=true:=by
 unfold okE at h
 simp only [Bool.and_eq_true] at h
 exact h.1
theorem wayW_get {l:List Table} {E:List Stp} {t:Int} {x:Stp} (h:x ∈ wayW l E t):(getC l x.ft x.fc).isSome=true ∧ (getC l x.tt x.tc).isSome=true:=by
 obtain ⟨s,_,h1,h2⟩:=wayW_mem.1 h
 have:=okE_rev h1
 rcases h2 with ⟨_,rfl⟩ | ⟨_,rfl⟩
 ·exact this
 ·exact ⟨this.2,this.1⟩
theorem routesL_valid {l:List Table} {E:List (List Int)} {from_ dst:Int} {k:Nat} {x:Pth} (hl:listB l=true) (hf:(findT l from_).isSome=true) (hk:k ≤ 4) (hx:x ∈ routesL l E from_ dst k) :
  validE l x=0 ∧ x.start=from_ ∧ x.steps.length ≤ k:=by
 have hx':x ∈ simL (wayW l (stpsE E)) dst from_ k [] from_:=hx
 obtain ⟨h1,_,h3⟩:=simL_pre _ _ _ _ hx'
 obtain ⟨_,g⟩:=simL_chain _ _ _ _ hx' rfl
 simp only [List.length_nil,Nat.zero_add] at h3
 refine ⟨?_,h1,h3⟩
 unfold validE
 rw [if_pos hl,if_pos (by omega),if_pos]
 refine pathB_true (h1 ▸ hf) fun j hj=>?_
 have hj':=List.getElem?_eq_getElem hj
 obtain ⟨a,b⟩:=g j _ hj' (Nat.zero_le _)
 have c:=wayW_get a
 have d:=wayW_ft a
 unfold stepOK
 rw [hj']
 simp only [Bool.and_eq_true,Bool.not_eq_true',decide_eq_true_eq,decide_eq_false_iff_not]
 exact ⟨c.1,c.2,by rw [d]; exact atT_mem x j,b⟩
theorem findT_J {L:List Table} (h:∀ k (hk:k < L.length),TabJ k L[k]) {n:Int}:(findT L n).isSome=true ↔ 1 ≤ n ∧ n ≤ L.length:=by
 unfold findT
 rw [List.find?_isSome]
 constructor
 ·rintro ⟨t,ht,hp⟩
  obtain ⟨k,hk,rfl⟩:=List.getElem_of_mem ht
  have:=(h k hk).id
  have:=of_decide_eq_true hp
  omega
 ·rintro ⟨h1,h2⟩
  have hk:n.toNat - 1 < L.length:=by omega
  refine ⟨L[n.toNat - 1],List.getElem_mem _,decide_eq_true ?_⟩
  have:=(h _ hk).id
  omega
theorem routeE_J {L:List Table} (h:∀ k (hk:k < L.length),TabJ k L[k]) (hl:L.length ≤ 100) {a b s:Int} (ha:1 ≤ a ∧ a ≤ L.length) (hb:1 ≤ b ∧ b ≤ L.length) (hs:0 ≤ s ∧ s ≤ 4):routeE L a b s=0:=by
 unfold routeE
 rw [if_pos (listB_J h hl),if_pos hs,if_pos]
 rw [(findT_J h).2 ha,(findT_J h).2 hb]; rfl
end Go.Sx.Sp
namespace Go.Sx.Sp
open Go Go.Sx Go.Proofs Go.Sort
attribute [local irreducible] GoodW famL
theorem simL_len {W:Int → List Stp} {dst from_:Int} {N:Nat} (h0:0 < N) (hN:∀ t,(W t).length ≤ N):∀ (k:Nat) (way:List Stp) (at_:Int),(simL W dst from_ k way at_).length ≤ N ^ k
 | 0,way,at_=>by unfold simL; split <;> simp
 | k + 1,way,at_=>by
  have hp:0 < N ^ (k + 1):=Nat.pow_pos h0
  unfold simL
  split
  ·rw [List.length_singleton]; exact hp
  ·have h1:=flat_le (fun s:Stp=>if s.tt ∈ from_ :: way.map Stp.tt then [] else simL W dst from_ k (way ++ [s]) s.tt) (N ^ k) (W at_) (fun s _=>by
    split
    ·simp
    ·exact simL_len h0 hN k _ _)
   have h2:(W at_).length * N ^ k ≤ N * N ^ k:=Nat.mul_le_mul_right _ (hN at_)
   rw [Nat.pow_succ,Nat.mul_comm]
   omega
theorem routes1_mem {W:Int → List Stp} {a b:Int} (hne:a ≠ b) {x:Pth}:x ∈ simL W b a 1 [] a ↔ ∃ s ∈ W a,s.tt=b ∧ x=⟨a,[s]⟩:=by
 unfold simL
 rw [if_neg hne]
 simp only [List.mem_flatMap,List.map_nil,List.mem_singleton,List.nil_append]
 constructor
 ·rintro ⟨s,hs,hx⟩
  split at hx
  ·cases hx
  ·unfold simL at hx
   split at hx
   ·rename_i h
    exact ⟨s,hs,h,by simpa using hx⟩
   ·cases hx
 ·rintro ⟨s,hs,h,rfl⟩
  refine ⟨s,hs,?_⟩
  rw [if_neg (by rw [h]; exact fun e=>hne e.symm)]
  unfold simL
  rw [if_pos h]; simp
theorem routes2_mem {W:Int → List Stp} {a b:Int} (hne:a ≠ b) {x:Pth}:x ∈ simL W b a 2 [] a ↔ (∃ s ∈ W a,s.tt=b ∧ x=⟨a,[s]⟩) ∨ ∃ s ∈ W a,s.tt ≠ a ∧ s.tt ≠ b ∧ ∃ u ∈ W s.tt,u.tt=b ∧ x=⟨a,[s,u]⟩:=by
 unfold simL
 rw [if_neg hne]
 simp only [List.mem_flatMap,List.map_nil,List.mem_singleton,List.nil_append]
 constructor
 ·rintro ⟨s,hs,hx⟩
  split at hx
  ·cases hx
  ·rename_i ha
   unfold simL at hx
   split at hx
   ·rename_i h
    exact .inl ⟨s,hs,h,by simpa using hx⟩
   ·rename_i hb
    obtain ⟨u,hu,hx⟩:=List.mem_flatMap.1 hx
    split at hx
    ·cases hx
    ·unfold simL at hx
     split at hx
     ·rename_i h
      exact .inr ⟨s,hs,ha,hb,u,hu,h,by simpa using hx⟩
     ·cases hx
 ·rintro (⟨s,hs,h,rfl⟩ | ⟨s,hs,ha,hb,u,hu,h,rfl⟩)
  ·refine ⟨s,hs,?_⟩
   rw [if_neg (by rw [h]; exact fun e=>hne e.symm)]
   unfold simL
   rw [if_pos h]; simp
  ·refine ⟨s,hs,?_⟩
   rw [if_neg ha]
   unfold simL
   rw [if_neg hb,List.mem_flatMap]
   refine ⟨u,hu,?_⟩
   rw [if_neg (by rw [h]; simp only [List.map_cons,List.map_nil,List.mem_cons,List.not_mem_nil,or_false]; exact fun e=>e.elim (fun e=>hne e.symm) fun e=>hb e.symm)]
   unfold simL
   rw [if_pos h]; simp
theorem pathsM_all {l:List Table} {E:List (List Int)} {a b:Int} {k:Nat} (hne:a ≠ b) (h0:routeE l a b k=0) (hl:(routesL l E a b k).length ≤ 1024):pathsM l E a b k=(sortBy ordC (routesL l E a b k),0):=by
 have e:findP l E a b k 1024=sortBy ordC (routesL l E a b k):=by rw [findP_eq hne,List.take_of_length_le (by omega)]
 unfold pathsM
 rw [if_pos h0,Int.toNat_natCast,e,if_pos (by rw [sortBy_len]; exact hl)]
theorem edges_few3 {l:List Table} (h:∀ b ∈ l,b.cols.length ≤ 2) (hl:l.length ≤ 3):(edges l).length ≤ 24:=by
 have h1:∀ k n,(edgeA l k n).length ≤ n * 4:=fun k n=>by
  have:=flat_le (fun i=>edgeR (l.getD k Table.zero) i (l.drop (k + 1))) 4 (List.range n) (fun i _=>by
   have:=flat_le (fun b:Table=>edgeB (l.getD k Table.zero) i b b.cols.length) 2 (l.drop (k + 1)) fun b hb=>Nat.le_trans (edgeB_len _ i b _) (h b (List.mem_of_mem_drop hb))
   rw [List.length_drop] at this
   show (edgeR (l.getD k Table.zero) i (l.drop (k + 1))).length ≤ 4
   unfold edgeR
   omega)
  rwa [List.length_range] at this
 have:=flat_le (fun k=>edgeA l k (l.getD k Table.zero).cols.length) 8 (List.range l.length) (fun k hk=>by
  have hk:=List.mem_range.1 hk
  have h1:=h1 k (l.getD k Table.zero).cols.length
  have h2:(l.getD k Table.zero).cols.length ≤ 2:=by
   rw [List.getD_eq_getElem?_getD,List.getElem?_eq_getElem (show k < l.length by omega)]
   exact h _ (List.getElem_mem _)
  show (edgeA l k (l.getD k Table.zero).cols.length).length ≤ 8
  omega)
 rw [List.length_range] at this
 show (edgeL l l.length).length ≤ 24
 unfold edgeL
 omega
theorem routes_few {l:List Table} {E:List (List Int)} {a b:Int} {k:Nat} (hk:k ≤ 2) (hE:E.length ≤ 24):(routesL l E a b k).length ≤ 1024:=by
 have h1:=simL_len (W:=wayW l (stpsE E)) (dst:=b) (from_:=a) (N:=24) (by decide) (fun t=>Nat.le_trans (wayW_len l (stpsE E) t) (by unfold stpsE; rw [List.length_map]; exact hE)) k [] a
 have h2:24 ^ k ≤ 24 ^ 2:=Nat.pow_le_pow_right (by decide) hk
 have h3:(24:Nat) ^ 2=576:=by decide
 show (simL (wayW l (stpsE E)) b a k [] a).length ≤ 1024
 omega
end Go.Sx.Sp
namespace Go.Sx.Sp
open Go Go.Sx Go.Proofs Go.Sort
attribute [local irreducible] GoodW famL
theorem checkKey_two {P:Program} {t:TypeId} {f0 f1:Field} {i:TypeInfo} (hu:P.underlying t=some (.struct #[f0,f1])) (m0:(f0.name == "_")=false) (m1:(f1.name == "_")=false) (o0:f0.offset=0) (o1:f1.offset=1)
  (h0:P.underlying f0.type=some (.int .i64)) (h1:P.underlying f1.type=some (.int .i64)) (em:Bool) (d:Nat) (l:List Int) (hl:l.length=2) (w:World) :
  (Instr.checkKey em (d + 2) t (.agg (arrI l))).run P w=.ok () w:=by
 have m0':¬ f0.name = "_":=by simpa using m0
 have m1':¬ f1.name = "_":=by simpa using m1
 have p0:P.plainKey f0.type=true:=by simp [Program.plainKey,h0]
 have p1:P.plainKey f1.type=true:=by simp [Program.plainKey,h1]
 have e0:∀ x w,(Instr.checkKey em (d + 1) f0.type (.int .i64 x)).run P w=.ok () w:=fun x w=>by simp [Instr.checkKey,run_underlying h0]
 have e1:∀ x w,(Instr.checkKey em (d + 1) f1.type (.int .i64 x)).run P w=.ok () w:=fun x w=>by simp [Instr.checkKey,run_underlying h1]
 have q0:=run_part_plain (P:=P) w p0 (arrI_get (l:=l) (show 0 < l.length by omega))
 have q1:=run_part_plain (P:=P) w p1 (arrI_get (l:=l) (show 1 < l.length by omega))
 rw [Instr.checkKey]
 simp only [Sem.run_bind,run_underlying hu,Result.andThen_ok]
 simp [m0',m1',o0,o1,q0,q1,e0,e1]
theorem checkKey_pair {P:Program} {t e:TypeId} {i:TypeInfo} (hu:P.underlying t=some (.array 2 e)) (hi:P.info? e=some i) (hc:P.cellsOf e=2) (ha:∀ w,(isAgg e).run P w=.ok true w) (hz:∀ w,(Go.sizeOf e).run P w=.ok 2 w)
  {em:Bool} {d:Nat} (he:∀ (l:List Int) (w:World),l.length=2 → (Instr.checkKey em (d + 2) e (.agg (arrI l))).run P w=.ok () w) (l:List Int) (hl:l.length=4) (w:World) :
  (Instr.checkKey em (d + 3) t (.agg (arrI l))).run P w=.ok () w:=by
 have q0:=run_part_agg ha hz l 0 w
 have q1:=run_part_agg ha hz l 2 w
 have c0:=he ((l.drop 0).take 2) w (by rw [List.length_take,List.length_drop]; omega)
 have c1:=he ((l.drop 2).take 2) w (by rw [List.length_take,List.length_drop]; omega)
 rw [Instr.checkKey]
 simp only [Sem.run_bind,run_underlying hu,Result.andThen_ok]
 simp only [Std.Legacy.Range.forIn_eq_forIn_range',Std.Legacy.Range.size,Nat.sub_zero,Nat.add_one_sub_one,Nat.div_one]
 simp only [List.range',List.forIn_cons,List.forIn_nil,Sem.run_bind,hz,Result.andThen_ok,Nat.zero_mul,Nat.one_mul,Nat.zero_add,q0,q1,c0,c1,Sem.run_pure]
theorem keyR:KeyI Tryz.prog 65 4:=by
 obtain ⟨i,hi⟩:=info_of_underlying (P:=Tryz.prog) Tryz.underlying33
 refine ⟨⟨_,Tryz.underlying65,fun xs v=>rfl⟩,fun l l' w h1 h2=>?_,fun em l w h=>?_⟩
 ·exact (eqI_array (d:=9999) (m:=2) (c:=2) Tryz.underlying65 hi (by kernel_rfl) Tryz.isAgg65 Tryz.sizeOf65 eqI_ref).equal rfl Tryz.isAgg65 Tryz.sizeOf65 h1 h2 w
 ·exact checkKey_pair (d:=9997) Tryz.underlying65 hi (by kernel_rfl) Tryz.isAgg33 Tryz.sizeOf33 (fun l w h=>checkKey_two (i:=i) Tryz.underlying33 (by kernel_rfl) (by kernel_rfl) rfl rfl Tryz.underlying3 Tryz.underlying3 em 9997 l h w) l h w
end Go.Sx.Sp
namespace Go.Sx.Sp
open Go Go.Sx Go.Proofs Go.Sort
attribute [local irreducible] GoodW famL
theorem findT_at {L:List Table} (h:∀ k (hk:k < L.length),TabJ k L[k]) {k:Nat} (hk:k < L.length):findT L ((k + 1:Nat):Int)=some L[k]:=by
 have h1:=(findT_J h (n:=((k + 1:Nat):Int))).2 (by omega)
 obtain ⟨t,ht⟩:=Option.isSome_iff_exists.1 h1
 unfold findT at ht ⊢
 have h0:=List.find?_some ht
 have h2:=of_decide_eq_true h0
 obtain ⟨m,hm,rfl⟩:=List.getElem_of_mem (List.mem_of_find?_eq_some ht)
 have h3:=(h m hm).id
 have e:m=k:=by omega
 subst e
 exact ht
theorem getC_at {L:List Table} (h:∀ k (hk:k < L.length),TabJ k L[k]) {k i:Nat} (hk:k < L.length) (hi:i < L[k].cols.length):(getC L ((k + 1:Nat):Int) (i:Nat)).isSome=true:=by
 unfold getC
 rw [findT_at h hk]
 simp only
 rw [if_pos ⟨by omega,by omega⟩,Int.toNat_natCast,List.getElem?_eq_getElem hi]
 rfl
theorem edges_okE {L:List Table} (h:∀ k (hk:k < L.length),TabJ k L[k]) (hl:L.length ≤ 100) {r:List Int} (hr:r ∈ edges L):okE L (stpOf r)=true:=by
 unfold edges edgeL edgeA edgeR edgeB at hr
 simp only [List.mem_flatMap,List.mem_range] at hr
 obtain ⟨k,hk,i,hi,b,hb,j,hj,hr⟩:=hr
 rw [List.getD_eq_getElem?_getD,List.getElem?_eq_getElem hk,Option.getD_some] at hi hr
 obtain ⟨m,hm,rfl⟩:=List.getElem_of_mem hb
 rw [List.length_drop] at hm
 rw [List.getElem_drop] at hj hr
 have ha:=h k hk
 have hb:=h (k + 1 + m) (by omega)
 obtain ⟨x,y,r6,r7,r8,r9,r10,hof,_,_⟩:=of29_form (validB_J ha (by omega)) (validB_J hb (by omega)) hi hj
 unfold edgeC at hr
 rw [hof] at hr
 split at hr
 ·rw [List.mem_singleton] at hr
  subst hr
  have g1:=getC_at h hk hi
  have g2:=getC_at h (show k + 1 + m < L.length by omega) hj
  unfold okE stpOf
  simp only [List.getD_eq_getElem?_getD,List.getElem?_cons_zero,List.getElem?_cons_succ,Option.getD_some]
  rw [ha.id,hb.id,g1,g2]
  have:¬ (((k + 1:Nat):Int)=((k + 1 + m + 1:Nat):Int)):=by omega
  rw [decide_eq_false this]; rfl
 ·cases hr
def keyS (s:Stp):List Int:=[s.ft,s.fc,s.tt,s.tc]
theorem keyS_inj {s u:Stp} (h:keyS s=keyS u):s=u:=(step_eq s u).1 h
def relK (E:List Stp):List (List Int):=E.foldl (fun K s=>arrIns (arrIns K (keyS s)) (keyS (revS s))) []
theorem relK_snoc (E:List Stp) (s:Stp):relK (E ++ [s])=arrIns (arrIns (relK E) (keyS s)) (keyS (revS s)):=by simp [relK]
theorem arrIns_mem' {L:List (List Int)} {l x:List Int}:x ∈ arrIns L l ↔ x ∈ L ∨ x=l:=by
 unfold arrIns
 by_cases h:l ∈ L
 ·rw [if_pos h]
  constructor
  ·exact .inl
  ·rintro (h1 | h1)
   ·exact h1
   ·rw [h1]; exact h
 ·rw [if_neg h]; simp
theorem arrIns_nd {L:List (List Int)} {l:List Int} (h:L.Nodup):(arrIns L l).Nodup:=by
 unfold arrIns
 split
 ·exact h
 ·rename_i hn
  rw [List.nodup_append]
  refine ⟨h,by simp,fun a ha b hb e=>hn ?_⟩
  rw [List.mem_singleton] at hb
  rw [← hb,← e]; exact ha
theorem relK_mem {x:List Int} (E:List Stp):x ∈ relK E ↔ ∃ s ∈ E,x=keyS s ∨ x=keyS (revS s):=by
 have key:∀ (E:List Stp) (K:List (List Int)),x ∈ E.foldl (fun K s=>arrIns (arrIns K (keyS s)) (keyS (revS s))) K ↔ x ∈ K ∨ ∃ s ∈ E,x=keyS s ∨ x=keyS (revS s):=by
  intro E
  induction E with
  | nil=>intro K; simp
  | cons s E ih =>
   intro K
   rw [List.foldl_cons,ih,arrIns_mem',arrIns_mem']
   constructor
   ·rintro (((h | h) | h) | ⟨u,h1,h2⟩)
    ·exact .inl h
    ·exact .inr ⟨s,List.mem_cons_self,.inl h⟩
    ·exact .inr ⟨s,List.mem_cons_self,.inr h⟩
    ·exact .inr ⟨u,List.mem_cons_of_mem _ h1,h2⟩
   ·rintro (h | ⟨u,h1,h2⟩)
    ·exact .inl (.inl (.inl h))
    ·rcases List.mem_cons.1 h1 with rfl | h1
     ·exact .inl (h2.elim (fun h=>.inl (.inr h)) .inr)
     ·exact .inr ⟨u,h1,h2⟩
 have:=key E []
 simpa [relK] using this
theorem relK_nd (E:List Stp):(relK E).Nodup:=by
 have key:∀ (E:List Stp) (K:List (List Int)),K.Nodup → (E.foldl (fun K s=>arrIns (arrIns K (keyS s)) (keyS (revS s))) K).Nodup:=by
  intro E
  induction E with
  | nil=>intro K h; exact h
  | cons s E ih=>intro K h; rw [List.foldl_cons]; exact ih _ (arrIns_nd (arrIns_nd h))
 exact key E [] List.nodup_nil
theorem relK_four (E:List Stp):∀ a ∈ relK E,a.length=4:=fun a ha=>by
 obtain ⟨s,_,rfl | rfl⟩:=(relK_mem E).1 ha <;> rfl
def isT (a b:Int) (k:List Int):Bool:=decide (k.getD 0 0=a) && decide (k.getD 2 0=b)
def toW (l:List Table) (E:List Stp) (a b:Int):List Stp:=(wayW l E a).filter fun s=>decide (s.tt=b)
theorem toW_mem {l:List Table} {E:List Stp} {a b:Int} {s:Stp}:s ∈ toW l E a b ↔ s ∈ wayW l E a ∧ s.tt=b:=by
 unfold toW
 rw [List.mem_filter,decide_eq_true_eq]
theorem toW_nd (l:List Table) (E:List Stp) (a b:Int):(toW l E a b).Nodup:=(wayW_nd stepC_tot l E a).filter _
theorem relK_cnt {l:List Table} {E:List Stp} (hE:∀ s ∈ E,okE l s=true) (a b:Int):((relK E).filter (isT a b)).length=(toW l E a b).length:=by
 have h1:((toW l E a b).map keyS).Nodup:=by
  rw [List.nodup_iff_pairwise_ne,List.pairwise_map]
  exact (List.nodup_iff_pairwise_ne.1 (toW_nd l E a b)).imp fun h e=>h (keyS_inj e)
 have h2:((relK E).filter (isT a b)).Nodup:=(relK_nd E).filter _
 have hm:∀ x,x ∈ (relK E).filter (isT a b) ↔ x ∈ (toW l E a b).map keyS:=fun x=>by
  rw [List.mem_filter,relK_mem,List.mem_map]
  unfold isT
  rw [Bool.and_eq_true,decide_eq_true_eq,decide_eq_true_eq]
  constructor
  ·rintro ⟨⟨s,hs,rfl | rfl⟩,ha,hb⟩
   ·exact ⟨s,toW_mem.2 ⟨wayW_mem.2 ⟨s,hs,hE s hs,.inl ⟨ha,rfl⟩⟩,hb⟩,rfl⟩
   ·exact ⟨revS s,toW_mem.2 ⟨wayW_mem.2 ⟨s,hs,hE s hs,.inr ⟨ha,rfl⟩⟩,hb⟩,rfl⟩
  ·rintro ⟨u,hu,rfl⟩
   obtain ⟨hw,hb⟩:=toW_mem.1 hu
   have ha:=wayW_ft hw
   obtain ⟨s,hs,_,⟨_,rfl⟩ | ⟨_,rfl⟩⟩:=wayW_mem.1 hw
   ·exact ⟨⟨_,hs,.inl rfl⟩,ha,hb⟩
   ·exact ⟨⟨s,hs,.inr rfl⟩,ha,hb⟩
 have a1:=h2.length_le_of_subset (l₂:=(toW l E a b).map keyS) fun x hx=>(hm x).1 hx
 have a2:=h1.length_le_of_subset (l₂:=(relK E).filter (isT a b)) fun x hx=>(hm x).2 hx
 rw [List.length_map] at a1 a2
 exact Nat.le_antisymm a1 a2
theorem len_of_mem {α:Type} {l m:List α} (h1:l.Nodup) (h2:m.Nodup) (h:∀ x,x ∈ l ↔ x ∈ m):l.length=m.length:=
 Nat.le_antisymm (h1.length_le_of_subset fun x hx=>(h x).1 hx) (h2.length_le_of_subset fun x hx=>(h x).2 hx)
theorem routes1_cnt (l:List Table) (E:List Stp) {a b:Int} (hne:a ≠ b):(simL (wayW l E) b a 1 [] a).length=(toW l E a b).length:=by
 have h:(simL (wayW l E) b a 1 [] a).length=((toW l E a b).map fun s=>(⟨a,[s]⟩:Pth)).length:=by
  refine len_of_mem (simL_nodup (fun t=>wayW_nd stepC_tot l E t) 1 [] a) ?_ fun x=>?_
  ·rw [List.nodup_iff_pairwise_ne,List.pairwise_map]
   exact (List.nodup_iff_pairwise_ne.1 (toW_nd l E a b)).imp fun h e=>h (by cases e; rfl)
  ·rw [routes1_mem hne,List.mem_map]
   constructor
   ·rintro ⟨s,hs,hb,rfl⟩; exact ⟨s,toW_mem.2 ⟨hs,hb⟩,rfl⟩
   ·rintro ⟨s,hs,rfl⟩; exact ⟨s,(toW_mem.1 hs).1,(toW_mem.1 hs).2,rfl⟩
 rw [h,List.length_map]
theorem flat_const {α β:Type} {f:α → List β} {n:Nat}:∀ {l:List α},(∀ x ∈ l,(f x).length=n) → (l.flatMap f).length=l.length * n
 | [],_=>by simp
 | x :: l,h=>by
  rw [List.flatMap_cons,List.length_append,h x List.mem_cons_self,flat_const fun y hy=>h y (List.mem_cons_of_mem _ hy),List.length_cons,Nat.add_mul,Nat.one_mul,Nat.add_comm]
theorem routes2_cnt (l:List Table) (E:List Stp) {a b c:Int} (hne:a ≠ b) (hac:c ≠ a) (hbc:c ≠ b) (hc:∀ s ∈ wayW l E a,s.tt ≠ a → s.tt ≠ b → s.tt=c) :
  (simL (wayW l E) b a 2 [] a).length=(toW l E a b).length + (toW l E a c).length * (toW l E c b).length:=by
 have h:(simL (wayW l E) b a 2 [] a).length=(((toW l E a b).map fun s=>(⟨a,[s]⟩:Pth)) ++ (toW l E a c).flatMap fun s=>(toW l E c b).map fun u=>(⟨a,[s,u]⟩:Pth)).length:=by
  refine len_of_mem (simL_nodup (fun t=>wayW_nd stepC_tot l E t) 2 [] a) ?_ fun x=>?_
  ·rw [List.nodup_append]
   refine ⟨?_,?_,fun x hx y hy e=>?_⟩
   ·rw [List.nodup_iff_pairwise_ne,List.pairwise_map]
    exact (List.nodup_iff_pairwise_ne.1 (toW_nd l E a b)).imp fun h e=>h (by cases e; rfl)
   ·rw [List.nodup_iff_pairwise_ne,List.pairwise_flatMap]
    refine ⟨fun s hs=>?_,(List.nodup_iff_pairwise_ne.1 (toW_nd l E a c)).imp fun {s t} hst x hx y hy e=>?_⟩
    ·rw [List.pairwise_map]
     exact (List.nodup_iff_pairwise_ne.1 (toW_nd l E c b)).imp fun h e=>h (by cases e; rfl)
    ·obtain ⟨u,_,rfl⟩:=List.mem_map.1 hx
     obtain ⟨v,_,rfl⟩:=List.mem_map.1 hy
     cases e
     exact hst rfl
   ·obtain ⟨s,_,rfl⟩:=List.mem_map.1 hx
    obtain ⟨t,_,hy⟩:=List.mem_flatMap.1 hy
    obtain ⟨u,_,rfl⟩:=List.mem_map.1 hy
    cases e
  ·rw [routes2_mem hne,List.mem_append,List.mem_map,List.mem_flatMap]
   constructor
   ·rintro (⟨s,hs,hb,rfl⟩ | ⟨s,hs,ha,hb,u,hu,hub,rfl⟩)
    ·exact .inl ⟨s,toW_mem.2 ⟨hs,hb⟩,rfl⟩
    ·have e:=hc s hs ha hb
     rw [e] at hu
     exact .inr ⟨s,toW_mem.2 ⟨hs,e⟩,List.mem_map.2 ⟨u,toW_mem.2 ⟨hu,hub⟩,rfl⟩⟩
   ·rintro (⟨s,hs,rfl⟩ | ⟨s,hs,hx⟩)
    ·exact .inl ⟨s,(toW_mem.1 hs).1,(toW_mem.1 hs).2,rfl⟩
    ·obtain ⟨u,hu,rfl⟩:=List.mem_map.1 hx
     obtain ⟨h1,h2⟩:=toW_mem.1 hs
     obtain ⟨h3,h4⟩:=toW_mem.1 hu
     exact .inr ⟨s,h1,by rw [h2]; exact hac,by rw [h2]; exact hbc,u,by rw [h2]; exact h3,h4,rfl⟩
 rw [h,List.length_append,List.length_map,flat_const (n:=(toW l E c b).length) fun s _=>List.length_map _]
end Go.Sx.Sp
namespace Go.Sx.Sp
open Go Go.Sx Go.Proofs Go.Sort
attribute [local irreducible] GoodW famL
theorem arrIns_len (L:List (List Int)) (l:List Int):(arrIns L l).length ≤ L.length + 1:=by
 unfold arrIns
 split
 ·omega
 ·simp
theorem relK_len (E:List Stp):(relK E).length ≤ 2 * E.length:=by
 have key:∀ (E:List Stp) (K:List (List Int)),(E.foldl (fun K s=>arrIns (arrIns K (keyS s)) (keyS (revS s))) K).length ≤ K.length + 2 * E.length:=by
  intro E
  induction E with
  | nil=>intro K; simp
  | cons s E ih =>
   intro K
   rw [List.foldl_cons]
   have h1:=ih (arrIns (arrIns K (keyS s)) (keyS (revS s)))
   have h2:=arrIns_len (arrIns K (keyS s)) (keyS (revS s))
   have h3:=arrIns_len K (keyS s)
   rw [List.length_cons]; omega
 have:=key E []
 simpa [relK] using this
def cntK (K:List (List Int)) (a b:Int) (seen:List Nat):Nat:=(seen.filter fun j=>isT a b (K.getD j [])).length
theorem cntK_nil (K:List (List Int)) (a b:Int):cntK K a b []=0:=rfl
theorem cntK_snoc (K:List (List Int)) (a b:Int) (seen:List Nat) (j:Nat):cntK K a b (seen ++ [j])=cntK K a b seen + if isT a b (K.getD j [])=true then 1 else 0:=by
 unfold cntK
 rw [List.filter_append,List.length_append]
 congr 1
 rw [List.filter_cons]
 split <;> rfl
theorem cntK_le (K:List (List Int)) (a b:Int) (seen:List Nat):cntK K a b seen ≤ seen.length:=List.length_filter_le _ _
theorem cntK_all {K:List (List Int)} {a b:Int} {seen:List Nat} (h:seen.Perm (List.range K.length)):cntK K a b seen=(K.filter (isT a b)).length:=by
 unfold cntK
 rw [(h.filter _).length_eq]
 have e:K=(List.range K.length).map fun j=>K.getD j []:=List.ext_getElem (by simp) fun i h1 h2=>by simp [h1]
 conv=>rhs; rw [e,List.filter_map,List.length_map]
 rfl
theorem arrE_at {K:List (List Int)} {j b:Nat} {kk v:V} (h:(arrE K)[j]? = some (b,kk,v)):j < K.length ∧ b=j ∧ kk=aggV (K.getD j []) ∧ v=.bool true:=by
 have hj:j < K.length:=by
  rw [← arrE_len K]
  exact (List.getElem?_eq_some_iff.1 h).1
 rw [arrE_get hj] at h
 simp only [Option.some.injEq,Prod.mk.injEq] at h
 refine ⟨hj,h.1.symm,?_,h.2.2.symm⟩
 rw [← h.2.1,List.getD_eq_getElem?_getD,List.getElem?_eq_getElem hj]; rfl
theorem look_R {N:Nat} {o:Oper} {h:Nat → List Blk} {ρ:Operand → V} {x k:Operand} {S:List (List Int)} {l:List Int} (hop:o.op=.lookup 64 x k false) (hx:ρ x=.omap 71 0) (hb:(h 71)[0]? = some (.map (arrE S) S.length (some []))) (hk:ρ k=aggV l) (hl:l.length=4) (hS:∀ s ∈ S,s.length=4) (hm:l ∈ S) (hd:dstOK N o.dst=true):GoodW Tryz.prog N o ρ h (.bool true) [] [71]:=by
 have:=setLook_good (P:=Tryz.prog) (N:=N) (o:=o) (h:=h) (ρ:=ρ) (t:=64) (kt:=65) (et:=4) (n:=4) (L:=S) (clock:=S.length) (ks:=some []) (s1:=71) (i1:=0) (l:=l) hop Tryz.underlying64 Tryz.zeroValue4 keyR hx hb hk hl hS
 rw [decide_eq_true hm] at this
 exact this.toW hd
theorem lastD_get {l:List Stp} {a b:Int} (hne:a ≠ b) (h:(l.map Stp.tt).getLastD a=b):0 < l.length ∧ ∃ s,l[l.length - 1]? = some s ∧ s.tt=b:=by
 cases l with
 | nil=>exact absurd h hne
 | cons x r =>
  refine ⟨by simp,(x :: r).getLast (by simp),by rw [← List.getLast?_eq_getElem?,List.getLast?_eq_some_getLast],?_⟩
  rw [List.getLastD_eq_getLast?,List.getLast?_eq_some_getLast (by simp),Option.getD_some,List.getLast_map] at h
  exact h
theorem atT_succ {p:Pth} {j:Nat} {s:Stp} (h:p.steps[j]? = some s):atT p (j + 1)=s.tt:=by
 unfold atT
 rw [List.take_add_one,h]
 simp
set_option maxHeartbeats 16000000 in
theorem all_law (t:List Int):Spec Tryz.prog 5 [.sl (intRows .i64 t) false] [] (.bool true) []:=by
 have hl:=intRows_len .i64 t
 have spL:=light_spec t
 have spA:=awake33_spec
 by_cases hll:t.length ≤ 500
 ·rw [decide_eq_true hll] at spL
  obtain ⟨⟨j1,j2⟩,j3,j4⟩:=joined_ok (l:=t) (most:=3) (p:=0) (by omega) (Nat.zero_le _)
  have spJ:=joined_spec t 3 0 (by omega) (Nat.zero_le _)
  generalize (joinedF t 3 0).1=L at *
  generalize (joinedF t 3 0).2=q at *
  have j2:L.length ≤ 3:=j2
  have hlist:=listB_J j3 (by omega)
  have hsm:=listB_small hlist
  have spE:=edges_spec L hlist (by omega)
  have hE11:=edges_11 L
  have hEf:=edges_few3 (l:=L) (fun b hb=>by obtain ⟨k,hk,rfl⟩:=List.getElem_of_mem hb; exact (j3 k hk).few.2) (by omega)
  have hok:∀ s ∈ stpsE (edges L),okE L s=true:=fun s hs=>by
   obtain ⟨r,hr,rfl⟩:=List.mem_map.1 hs
   exact edges_okE j3 (by omega) hr
  generalize edges L=E at *
  have spD:=next_spec t q 2 (by omega) j4
  have rD:=nextV_range t q (n:=2) (by omega)
  obtain ⟨d,hd⟩:=Int.eq_ofNat_of_zero_le rD.1
  rw [hd] at spD rD
  obtain ⟨k,hk⟩:∃ k:Nat,k=d + 1:=⟨_,rfl⟩
  have spP:=paths33_spec L E 1 2 (k:Nat) hsm hE11 (by omega)
  have spQ:=paths33_spec L E 1 2 (d:Nat) hsm hE11 (by omega)
  rw [pathsM_all (by decide) (routeE_J j3 (by omega) (by omega) (by omega) (by omega)) (routes_few (by omega) hEf)] at spP spQ
  have hql:(sortBy ordC (routesL L E 1 2 d)).length ≤ (sortBy ordC (routesL L E 1 2 k)).length:=by
   rw [sortBy_len,sortBy_len]
   refine (simL_nodup (fun t=>wayW_nd stepC_tot L (stpsE E) t) d [] 1).length_le_of_subset fun x hx=>?_
   rcases (show d=0 ∨ d=1 by omega) with rfl | rfl
   ·unfold simL at hx
    rw [if_neg (by decide)] at hx
    cases hx
   ·rw [hk]
    exact (routes2_mem (by decide)).2 (.inl ((routes1_mem (by decide)).1 hx))
  have hfind:(findT L 1).isSome=true:=(findT_J j3).2 (by omega)
  have hall:∀ x ∈ sortBy ordC (routesL L E 1 2 k),validE L x=0 ∧ x.start=1 ∧ (x.steps.map Stp.tt).getLastD 1=2 ∧ ∀ (j:Nat) s,x.steps[j]? = some s → s.ft=atT x j ∧ keyS s ∈ relK (stpsE E):=fun x hx=>by
   rw [sortBy_mem] at hx
   have h1:=routesL_valid hlist hfind (by omega) hx
   obtain ⟨h2,h3⟩:=simL_chain (W:=wayW L (stpsE E)) k [] 1 x hx rfl
   refine ⟨h1.1,h1.2.1,h2,fun j s hj=>?_⟩
   have h4:=(h3 j s hj (Nat.zero_le _)).1
   refine ⟨wayW_ft h4,?_⟩
   rw [relK_mem]
   obtain ⟨u,hu,_,⟨_,rfl⟩ | ⟨_,rfl⟩⟩:=wayW_mem.1 h4
   ·exact ⟨_,hu,.inl rfl⟩
   ·exact ⟨u,hu,.inr rfl⟩
  have hasc:AscC ordC (sortBy ordC (routesL L E 1 2 k)):=sortBy_asc ordC_tot (routesL_nodup L E 1 2 k)
  have hcnt:(sortBy ordC (routesL L E 1 2 k)).length=((relK (stpsE E)).filter (isT 1 2)).length + if k=2 then ((relK (stpsE E)).filter (isT 1 3)).length * ((relK (stpsE E)).filter (isT 3 2)).length else 0:=by
   rw [sortBy_len,relK_cnt hok,relK_cnt hok,relK_cnt hok]
   rcases (show k=1 ∨ k=2 by omega) with h | h
   ·rw [h,if_neg (by decide)]
    exact routes1_cnt L (stpsE E) (by decide)
   ·rw [h,if_pos rfl]
    refine routes2_cnt L (stpsE E) (by decide) (by decide) (by decide) fun s hs h1 h2=>?_
    have h3:=(wayW_get hs).2
    have h4:(findT L s.tt).isSome=true:=by
     unfold getC at h3
     cases hf:findT L s.tt with
     | none=>rw [hf] at h3; cases h3
     | some _=>rfl
    have:=(findT_J j3).1 h4
    omega
  generalize sortBy ordC (routesL L E 1 2 k)=P at *
  generalize sortBy ordC (routesL L E 1 2 d)=Q at *
  simp only at spP spQ
  have hpl:=pthRows_len P
  have hqr:=pthRows_len Q
  have hEr:=relRows_len E
  rw [show ((k:Nat):Int)=1 + (d:Int) by omega] at spP
  rw [show ((d:Nat):Int)=1 + (d:Int) - 1 by omega] at spQ
  refine gEn env Tryz.func5 fun Γ hN hK hML=>?_
  (refine gGo ?_; intros)
  (refine gPC (spL) ?_; conv=>whnf)
  (refine gGo ?_; intros)
  (refine gCA [] [(5,70)] [] (roll_spec t) ?_; conv=>whnf)
  (refine gGo ?_; intros)
  (refine gCA [(0,70)] [] [] (spJ) ?_; conv=>whnf)
  (refine gGo ?_; intros)
  (refine gPC (spE) ?_; conv=>whnf)
  (refine gGo ?_; intros)
  (refine ⟨_,_,_,callG [(0,70)] [] [] rfl rfl rfl (by kernel_rfl) (spD) (by repeat' (first | exact trivial | exact Lent.refl _ | exact Lent.norm _ | exact Lent.whole rfl rfl (by first | rfl | exact List.length_append.symm | exact hlenR | simp) rfl (by first | exact .inl rfl | exact .inr rfl) | apply And.intro)) rfl ⟨rfl,rfl,rfl,rfl,rfl,by repeat' (first | exact trivial | rfl | apply And.intro),rfl,rfl⟩,?_⟩; conv=>whnf)
  (refine gGo ?_; intros)
  (refine gPC (spP) ?_; conv=>whnf)
  (refine gGo ?_; intros)
  (refine gPC (spQ) ?_; conv=>whnf)
  (refine gGo ?_; intros)
  refine W.loopG (fun n st=>∃ i:Nat,i ≤ E.length ∧ n=E.length - i ∧ st=⟨[(4,.sl (tblRows L) false),(6,.int .i64 1),(7,.int .i64 2),(8,.int .i64 (1 + (d:Int))),(9,.sl (pthRows P) false),(13,.omap 71 0),(72,.sl (relRows E) false),(73,.int .i64 (relRows E).length),(74,.int .i64 (i:Nat))],[(71,[.map (arrE (relK (stpsE (E.take i)))) (relK (stpsE (E.take i))).length (some [])])],[71]⟩)
   E.length _ ⟨0,by omega,by omega,rfl⟩ ⟨[(71,71)],[],[],.mq (.ci 71 .nil)⟩ ?_
  rintro n st ⟨i,hi,rfl,rfl⟩
  (refine gGo ?_; intros)
  refine boolRes_split (fun hb=>?_) (fun hb=>?_) <;> conv=>whnf
  ·have hlt:i < E.length:=by omega
   have hg:=relRows_get hlt
   have h11:=hE11 _ (List.getElem_mem hlt)
   have hsn:relK (stpsE (E.take (i + 1)))=arrIns (arrIns (relK (stpsE (E.take i))) (keyS (stpOf E[i]))) (keyS (revS (stpOf E[i]))):=by
    rw [List.take_succ_eq_append_getElem hlt]
    unfold stpsE
    rw [List.map_append,List.map_singleton,relK_snoc]
   have hK4:=relK_four (stpsE (E.take i))
   generalize relK (stpsE (E.take i))=K at *
   generalize E[i]=r at *
   obtain ⟨r0,r1,r2,r3,r4,r5,r6,r7,r8,r9,r10,rfl⟩:=rel11 h11
   (refine gGo ?_; intros)
   refine rowAt_of (by simpa using hg) ?_
   conv=>whnf
   (refine gGo ?_; intros)
   refine ⟨_,_,_,(setUpd_good (t:=64) (kt:=65) (et:=4) (n:=4) (L:=K) (ks:=some []) (s1:=71) (i1:=0) (l:=[r0,r1,r2,r3]) rfl Tryz.underlying64 keyR rfl rfl rfl rfl hK4 rfl).toW (by kernel_rfl),?_⟩
   conv=>whnf
   (refine gGo ?_; intros)
   refine ⟨_,_,_,(setUpd_good (t:=64) (kt:=65) (et:=4) (n:=4) (L:=arrIns K [r0,r1,r2,r3]) (ks:=some []) (s1:=71) (i1:=0) (l:=[r2,r3,r0,r1]) rfl Tryz.underlying64 keyR rfl rfl rfl rfl (fun a ha=>(arrIns_mem'.1 ha).elim (hK4 a) fun e=>by rw [e]; rfl) rfl).toW (by kernel_rfl),?_⟩
   conv=>whnf
   (refine gGo ?_; intros)
   refine ⟨E.length - (i + 1),_,by omega,⟨i + 1,by omega,rfl,rfl⟩,[(71,71)],[],[],LeG.mq (.cons 71 rfl rfl (.refl _) (by rw [hsn]; rfl) .nil)⟩
  ·have hie:i=E.length:=by omega
   rw [hie,List.take_length]
   have hK4:=relK_four (stpsE E)
   have hKl:=relK_len (stpsE E)
   rw [show (stpsE E).length=E.length from List.length_map _] at hKl
   have hKn:=relK_nd (stpsE E)
   generalize relK (stpsE E)=K at *
   (refine gGo ?_; intros)
   refine W.loopG (fun n st=>∃ (seen:List Nat) (c1 c2:Nat),Seen K.length seen ∧ c1=cntK K 1 2 seen ∧ c2=cntK K 1 3 seen * (K.filter (isT 3 2)).length ∧ n=K.length - seen.length ∧ st=⟨[(4,.sl (tblRows L) false),(6,.int .i64 1),(7,.int .i64 2),(8,.int .i64 (1 + (d:Int))),(9,.sl (pthRows P) false),(13,.omap 71 0),(16,.int .i64 (c1:Nat)),(17,.int .i64 (c2:Nat)),(92,.bp 92 0)],[(71,[.map (arrE (K)) (K).length (some [])]),(92,[.iter 71 0 K.length seen])],[71,92]⟩)
    K.length _ ⟨[],0,0,Seen.nil _,rfl,by rw [cntK_nil,Nat.zero_mul],by simp,rfl⟩ ⟨[(71,71),(92,92)],[],[],.mq (.ci 71 (.ci 92 .nil))⟩ ?_
   rintro n st ⟨seen,c1,c2,hs,hc1,hc2,rfl,rfl⟩
   refine gA ?_
   have hsl:=hs.len
   refine W.nextMap env hN rfl rfl rfl (by kernel_rfl) rfl rfl rfl (fun hD=>?_) (fun j0 j kk v hj hb=>?_)
   ·have hall2:∀ i,i < K.length → i ∈ seen:=fun i hi=>hD i i _ _ (arrE_get hi)
    rw [cntK_all (hs.perm hall2)] at hc1 hc2
    conv=>whnf
    (refine gGo ?_; intros)
    refine boolRes_split (fun hb=>?_) (fun hb=>?_) <;> conv=>whnf
    ·have hk2:k=2:=by omega
     rw [if_pos hk2,← hc1,← hc2] at hcnt
     (refine gGo ?_; intros)
     refine W.loopG (fun n st=>∃ i:Nat,i ≤ P.length ∧ n=P.length - i ∧ st=⟨[(4,.sl (tblRows L) false),(6,.int .i64 1),(7,.int .i64 2),(8,.int .i64 (1 + (d:Int))),(9,.sl (pthRows P) false),(13,.omap 71 0),(20,.int .i64 (((c1:Int) + (c2:Int)))),(147,.sl (pthRows P) false),(148,.int .i64 (pthRows P).length),(149,.int .i64 (i:Nat))],[(71,[.map (arrE (K)) (K).length (some [])])],[71]⟩)
      P.length _ ⟨0,by omega,by omega,rfl⟩ ⟨[(71,71)],[],[],.mq (.ci 71 .nil)⟩ ?_
     rintro n st ⟨i,hi,rfl,rfl⟩
     (refine gGo ?_; intros)
     refine boolRes_split (fun hb=>?_) (fun hb=>?_) <;> conv=>whnf
     ·have hlt:i < P.length:=by omega
      have hg:=pthRows_get hlt
      obtain ⟨hx1,hx2,hx3,hx4⟩:=hall P[i] (List.getElem_mem hlt)
      have spV:=valid31_spec L P[i]
      rw [hx1] at spV
      have hpr:∀ j,i=j + 1 → ∃ y,(pthRows P)[j]? = some y.row ∧ ordC y P[i] < 0:=fun j e=>by
       subst e
       exact ⟨P[j],pthRows_get (by omega),List.pairwise_iff_getElem.1 hasc j (j + 1) (by omega) hlt (by omega)⟩
      generalize P[i]=x at *
      obtain ⟨x0,S⟩:=x
      obtain rfl:x0=1:=hx2
      obtain ⟨hS0,s9,hs9,hs9t⟩:=lastD_get (l:=S) (by decide) hx3
      have hSl:=stpRows_len S
      have hg9:(stpRows S)[S.length - 1]? = some s9.row:=by unfold stpRows; rw [List.getElem?_map,hs9]; rfl
      (refine gGo ?_; intros)
      change (pthRows P)[i]? = some [V.int .i64 1,.sl (stpRows S) false] at hg
      refine rowAt_of (r:=[V.int .i64 1,.sl (stpRows S) false]) (by simpa using hg) ?_
      conv=>whnf
      (refine gGo ?_; intros)
      (refine gPC (spV) ?_; conv=>whnf)
      (refine gGo ?_; intros)
      obtain ⟨a1,a2,a3,a4⟩:=s9
      obtain rfl:a3=2:=hs9t
      change (stpRows S)[S.length - 1]? = some [V.int .i64 a1,.int .i64 a2,.int .i64 2,.int .i64 a4] at hg9
      refine rowAt_of (r:=[V.int .i64 a1,.int .i64 a2,.int .i64 2,.int .i64 a4]) (by rw [hSl,show (((S.length:Nat):Int) - 1).toNat=S.length - 1 by omega]; exact hg9) ?_
      conv=>whnf
      (refine gGo ?_; intros)
      refine boolRes_split (fun hb=>?_) (fun hb=>?_) <;> conv=>whnf
      ·obtain ⟨j,rfl⟩:∃ j:Nat,i=j + 1:=⟨i - 1,by omega⟩
       obtain ⟨y,hy1,hy2⟩:=hpr j rfl
       have spC:=cmpPath33_sp y ⟨1,S⟩
       generalize ordC y ⟨1,S⟩=c at *
       (refine gGo ?_; intros)
       refine rowAt_of (r:=y.row) (by rw [show (((j + 1:Nat):Int) - 1).toNat=j by omega]; exact hy1) ?_
       conv=>whnf
       (refine gGo ?_; intros)
       (refine gPC (spC) ?_; conv=>whnf)
       (refine gGo ?_; intros)
       refine W.loopG (fun n st=>∃ (jj:Nat) (a:Int),jj ≤ S.length ∧ a=atT ⟨1,S⟩ jj ∧ n=S.length - jj ∧ st=⟨[(4,.sl (tblRows L) false),(6,.int .i64 1),(7,.int .i64 2),(8,.int .i64 (1 + (d:Int))),(9,.sl (pthRows P) false),(13,.omap 71 0),(20,.int .i64 (((c1:Int) + (c2:Int)))),(147,.sl (pthRows P) false),(148,.int .i64 (pthRows P).length),(149,.int .i64 ((j + 1):Nat)),(23,.int .i64 a),(200,.sl (stpRows S) false),(201,.int .i64 (stpRows S).length),(202,.int .i64 (jj:Nat))],[(71,[.map (arrE (K)) (K).length (some [])])],[71]⟩)
        S.length _ ⟨0,1,by omega,rfl,by omega,rfl⟩ ⟨[(71,71)],[],[],.mq (.ci 71 .nil)⟩ ?_
       rintro n st ⟨j',a,hj',ha,rfl,rfl⟩
       (refine gGo ?_; intros)
       refine boolRes_split (fun hb=>?_) (fun hb=>?_) <;> conv=>whnf
       ·have hltj:j' < S.length:=by omega
        have hgj:=stpRows_get hltj
        obtain ⟨hf,hmem⟩:=hx4 j' S[j'] (List.getElem?_eq_getElem hltj)
        have hsu:=atT_succ (p:=⟨1,S⟩) (j:=j') (s:=S[j']) (List.getElem?_eq_getElem hltj)
        generalize S[j']=s at *
        obtain ⟨s1,s2,s3,s4⟩:=s
        obtain rfl:a=s1:=ha.trans hf.symm
        change (stpRows S)[j']? = some [V.int .i64 a,.int .i64 s2,.int .i64 s3,.int .i64 s4] at hgj
        (refine gGo ?_; intros)
        refine rowAt_of (r:=[V.int .i64 a,.int .i64 s2,.int .i64 s3,.int .i64 s4]) (by simpa using hgj) ?_
        conv=>whnf
        (refine gGo ?_; intros)
        refine ⟨_,_,_,look_R (S:=K) (l:=[a,s2,s3,s4]) rfl rfl rfl rfl rfl hK4 hmem (by kernel_rfl),?_⟩
        conv=>whnf
        (refine gGo ?_; intros)
        refine ⟨S.length - (j' + 1),_,by omega,⟨j' + 1,s3,by omega,hsu.symm,rfl,rfl⟩,⟨[(71,71)],[],[],.mq (.ci 71 .nil)⟩⟩
       ·(refine gGo ?_; intros)
        refine ⟨P.length - ((j + 1) + 1),_,by omega,⟨(j + 1) + 1,by omega,rfl,rfl⟩,⟨[(71,71)],[],[],.mq (.ci 71 .nil)⟩⟩
      ·(refine gGo ?_; intros)
       refine W.loopG (fun n st=>∃ (jj:Nat) (a:Int),jj ≤ S.length ∧ a=atT ⟨1,S⟩ jj ∧ n=S.length - jj ∧ st=⟨[(4,.sl (tblRows L) false),(6,.int .i64 1),(7,.int .i64 2),(8,.int .i64 (1 + (d:Int))),(9,.sl (pthRows P) false),(13,.omap 71 0),(20,.int .i64 (((c1:Int) + (c2:Int)))),(147,.sl (pthRows P) false),(148,.int .i64 (pthRows P).length),(149,.int .i64 (i:Nat)),(23,.int .i64 a),(200,.sl (stpRows S) false),(201,.int .i64 (stpRows S).length),(202,.int .i64 (jj:Nat))],[(71,[.map (arrE (K)) (K).length (some [])])],[71]⟩)
        S.length _ ⟨0,1,by omega,rfl,by omega,rfl⟩ ⟨[(71,71)],[],[],.mq (.ci 71 .nil)⟩ ?_
       rintro n st ⟨j',a,hj',ha,rfl,rfl⟩
       (refine gGo ?_; intros)
       refine boolRes_split (fun hb=>?_) (fun hb=>?_) <;> conv=>whnf
       ·have hltj:j' < S.length:=by omega
        have hgj:=stpRows_get hltj
        obtain ⟨hf,hmem⟩:=hx4 j' S[j'] (List.getElem?_eq_getElem hltj)
        have hsu:=atT_succ (p:=⟨1,S⟩) (j:=j') (s:=S[j']) (List.getElem?_eq_getElem hltj)
        generalize S[j']=s at *
        obtain ⟨s1,s2,s3,s4⟩:=s
        obtain rfl:a=s1:=ha.trans hf.symm
        change (stpRows S)[j']? = some [V.int .i64 a,.int .i64 s2,.int .i64 s3,.int .i64 s4] at hgj
        (refine gGo ?_; intros)
        refine rowAt_of (r:=[V.int .i64 a,.int .i64 s2,.int .i64 s3,.int .i64 s4]) (by simpa using hgj) ?_
        conv=>whnf
        (refine gGo ?_; intros)
        refine ⟨_,_,_,look_R (S:=K) (l:=[a,s2,s3,s4]) rfl rfl rfl rfl rfl hK4 hmem (by kernel_rfl),?_⟩
        conv=>whnf
        (refine gGo ?_; intros)
        refine ⟨S.length - (j' + 1),_,by omega,⟨j' + 1,s3,by omega,hsu.symm,rfl,rfl⟩,⟨[(71,71)],[],[],.mq (.ci 71 .nil)⟩⟩
       ·(refine gGo ?_; intros)
        refine ⟨P.length - (i + 1),_,by omega,⟨i + 1,by omega,rfl,rfl⟩,⟨[(71,71)],[],[],.mq (.ci 71 .nil)⟩⟩
     ·(refine gGo ?_; intros)
      (refine gPC (spA) ?_; conv=>whnf)
      (refine gGr ?_; intros)
      exact ret0 rfl rfl rfl
    ·have hk2:¬ k=2:=by omega
     rw [if_neg hk2,← hc1] at hcnt
     (refine gGo ?_; intros)
     refine W.loopG (fun n st=>∃ i:Nat,i ≤ P.length ∧ n=P.length - i ∧ st=⟨[(4,.sl (tblRows L) false),(6,.int .i64 1),(7,.int .i64 2),(8,.int .i64 (1 + (d:Int))),(9,.sl (pthRows P) false),(13,.omap 71 0),(20,.int .i64 ((c1:Int))),(147,.sl (pthRows P) false),(148,.int .i64 (pthRows P).length),(149,.int .i64 (i:Nat))],[(71,[.map (arrE (K)) (K).length (some [])])],[71]⟩)
      P.length _ ⟨0,by omega,by omega,rfl⟩ ⟨[(71,71)],[],[],.mq (.ci 71 .nil)⟩ ?_
     rintro n st ⟨i,hi,rfl,rfl⟩
     (refine gGo ?_; intros)
     refine boolRes_split (fun hb=>?_) (fun hb=>?_) <;> conv=>whnf
     ·have hlt:i < P.length:=by omega
      have hg:=pthRows_get hlt
      obtain ⟨hx1,hx2,hx3,hx4⟩:=hall P[i] (List.getElem_mem hlt)
      have spV:=valid31_spec L P[i]
      rw [hx1] at spV
      have hpr:∀ j,i=j + 1 → ∃ y,(pthRows P)[j]? = some y.row ∧ ordC y P[i] < 0:=fun j e=>by
       subst e
       exact ⟨P[j],pthRows_get (by omega),List.pairwise_iff_getElem.1 hasc j (j + 1) (by omega) hlt (by omega)⟩
      generalize P[i]=x at *
      obtain ⟨x0,S⟩:=x
      obtain rfl:x0=1:=hx2
      obtain ⟨hS0,s9,hs9,hs9t⟩:=lastD_get (l:=S) (by decide) hx3
      have hSl:=stpRows_len S
      have hg9:(stpRows S)[S.length - 1]? = some s9.row:=by unfold stpRows; rw [List.getElem?_map,hs9]; rfl
      (refine gGo ?_; intros)
      change (pthRows P)[i]? = some [V.int .i64 1,.sl (stpRows S) false] at hg
      refine rowAt_of (r:=[V.int .i64 1,.sl (stpRows S) false]) (by simpa using hg) ?_
      conv=>whnf
      (refine gGo ?_; intros)
      (refine gPC (spV) ?_; conv=>whnf)
      (refine gGo ?_; intros)
      obtain ⟨a1,a2,a3,a4⟩:=s9
      obtain rfl:a3=2:=hs9t
      change (stpRows S)[S.length - 1]? = some [V.int .i64 a1,.int .i64 a2,.int .i64 2,.int .i64 a4] at hg9
      refine rowAt_of (r:=[V.int .i64 a1,.int .i64 a2,.int .i64 2,.int .i64 a4]) (by rw [hSl,show (((S.length:Nat):Int) - 1).toNat=S.length - 1 by omega]; exact hg9) ?_
      conv=>whnf
      (refine gGo ?_; intros)
      refine boolRes_split (fun hb=>?_) (fun hb=>?_) <;> conv=>whnf
      ·obtain ⟨j,rfl⟩:∃ j:Nat,i=j + 1:=⟨i - 1,by omega⟩
       obtain ⟨y,hy1,hy2⟩:=hpr j rfl
       have spC:=cmpPath33_sp y ⟨1,S⟩
       generalize ordC y ⟨1,S⟩=c at *
       (refine gGo ?_; intros)
       refine rowAt_of (r:=y.row) (by rw [show (((j + 1:Nat):Int) - 1).toNat=j by omega]; exact hy1) ?_
       conv=>whnf
       (refine gGo ?_; intros)
       (refine gPC (spC) ?_; conv=>whnf)
       (refine gGo ?_; intros)
       refine W.loopG (fun n st=>∃ (jj:Nat) (a:Int),jj ≤ S.length ∧ a=atT ⟨1,S⟩ jj ∧ n=S.length - jj ∧ st=⟨[(4,.sl (tblRows L) false),(6,.int .i64 1),(7,.int .i64 2),(8,.int .i64 (1 + (d:Int))),(9,.sl (pthRows P) false),(13,.omap 71 0),(20,.int .i64 ((c1:Int))),(147,.sl (pthRows P) false),(148,.int .i64 (pthRows P).length),(149,.int .i64 ((j + 1):Nat)),(23,.int .i64 a),(200,.sl (stpRows S) false),(201,.int .i64 (stpRows S).length),(202,.int .i64 (jj:Nat))],[(71,[.map (arrE (K)) (K).length (some [])])],[71]⟩)
        S.length _ ⟨0,1,by omega,rfl,by omega,rfl⟩ ⟨[(71,71)],[],[],.mq (.ci 71 .nil)⟩ ?_
       rintro n st ⟨j',a,hj',ha,rfl,rfl⟩
       (refine gGo ?_; intros)
       refine boolRes_split (fun hb=>?_) (fun hb=>?_) <;> conv=>whnf
       ·have hltj:j' < S.length:=by omega
        have hgj:=stpRows_get hltj
        obtain ⟨hf,hmem⟩:=hx4 j' S[j'] (List.getElem?_eq_getElem hltj)
        have hsu:=atT_succ (p:=⟨1,S⟩) (j:=j') (s:=S[j']) (List.getElem?_eq_getElem hltj)
        generalize S[j']=s at *
        obtain ⟨s1,s2,s3,s4⟩:=s
        obtain rfl:a=s1:=ha.trans hf.symm
        change (stpRows S)[j']? = some [V.int .i64 a,.int .i64 s2,.int .i64 s3,.int .i64 s4] at hgj
        (refine gGo ?_; intros)
        refine rowAt_of (r:=[V.int .i64 a,.int .i64 s2,.int .i64 s3,.int .i64 s4]) (by simpa using hgj) ?_
        conv=>whnf
        (refine gGo ?_; intros)
        refine ⟨_,_,_,look_R (S:=K) (l:=[a,s2,s3,s4]) rfl rfl rfl rfl rfl hK4 hmem (by kernel_rfl),?_⟩
        conv=>whnf
        (refine gGo ?_; intros)
        refine ⟨S.length - (j' + 1),_,by omega,⟨j' + 1,s3,by omega,hsu.symm,rfl,rfl⟩,⟨[(71,71)],[],[],.mq (.ci 71 .nil)⟩⟩
       ·(refine gGo ?_; intros)
        refine ⟨P.length - ((j + 1) + 1),_,by omega,⟨(j + 1) + 1,by omega,rfl,rfl⟩,⟨[(71,71)],[],[],.mq (.ci 71 .nil)⟩⟩
      ·(refine gGo ?_; intros)
       refine W.loopG (fun n st=>∃ (jj:Nat) (a:Int),jj ≤ S.length ∧ a=atT ⟨1,S⟩ jj ∧ n=S.length - jj ∧ st=⟨[(4,.sl (tblRows L) false),(6,.int .i64 1),(7,.int .i64 2),(8,.int .i64 (1 + (d:Int))),(9,.sl (pthRows P) false),(13,.omap 71 0),(20,.int .i64 ((c1:Int))),(147,.sl (pthRows P) false),(148,.int .i64 (pthRows P).length),(149,.int .i64 (i:Nat)),(23,.int .i64 a),(200,.sl (stpRows S) false),(201,.int .i64 (stpRows S).length),(202,.int .i64 (jj:Nat))],[(71,[.map (arrE (K)) (K).length (some [])])],[71]⟩)
        S.length _ ⟨0,1,by omega,rfl,by omega,rfl⟩ ⟨[(71,71)],[],[],.mq (.ci 71 .nil)⟩ ?_
       rintro n st ⟨j',a,hj',ha,rfl,rfl⟩
       (refine gGo ?_; intros)
       refine boolRes_split (fun hb=>?_) (fun hb=>?_) <;> conv=>whnf
       ·have hltj:j' < S.length:=by omega
        have hgj:=stpRows_get hltj
        obtain ⟨hf,hmem⟩:=hx4 j' S[j'] (List.getElem?_eq_getElem hltj)
        have hsu:=atT_succ (p:=⟨1,S⟩) (j:=j') (s:=S[j']) (List.getElem?_eq_getElem hltj)
        generalize S[j']=s at *
        obtain ⟨s1,s2,s3,s4⟩:=s
        obtain rfl:a=s1:=ha.trans hf.symm
        change (stpRows S)[j']? = some [V.int .i64 a,.int .i64 s2,.int .i64 s3,.int .i64 s4] at hgj
        (refine gGo ?_; intros)
        refine rowAt_of (r:=[V.int .i64 a,.int .i64 s2,.int .i64 s3,.int .i64 s4]) (by simpa using hgj) ?_
        conv=>whnf
        (refine gGo ?_; intros)
        refine ⟨_,_,_,look_R (S:=K) (l:=[a,s2,s3,s4]) rfl rfl rfl rfl rfl hK4 hmem (by kernel_rfl),?_⟩
        conv=>whnf
        (refine gGo ?_; intros)
        refine ⟨S.length - (j' + 1),_,by omega,⟨j' + 1,s3,by omega,hsu.symm,rfl,rfl⟩,⟨[(71,71)],[],[],.mq (.ci 71 .nil)⟩⟩
       ·(refine gGo ?_; intros)
        refine ⟨P.length - (i + 1),_,by omega,⟨i + 1,by omega,rfl,rfl⟩,⟨[(71,71)],[],[],.mq (.ci 71 .nil)⟩⟩
     ·(refine gGo ?_; intros)
      (refine gPC (spA) ?_; conv=>whnf)
      (refine gGr ?_; intros)
      exact ret0 rfl rfl rfl
   ·obtain ⟨hjl,hbj,hkk,hvv⟩:=arrE_at hj
    have hs':=hs.snoc hjl (hbj ▸ hb)
    have hlen:=hs'.len
    simp only [List.length_append,List.length_cons,List.length_nil] at hlen
    have q1:=cntK_snoc K 1 2 seen j
    have q2:=cntK_snoc K 1 3 seen j
    have hk4:(K.getD j0 []).length=4:=hK4 _ (by rw [List.getD_eq_getElem?_getD,List.getElem?_eq_getElem hjl]; exact List.getElem_mem hjl)
    subst hbj hkk hvv
    obtain ⟨x0,x1,x2,x3,hx⟩:∃ x0 x1 x2 x3,K.getD j []=[x0,x1,x2,x3]:=by
     match K.getD j [],hk4 with
     | [x0,x1,x2,x3],_=>exact ⟨_,_,_,_,rfl⟩
    rw [hx] at q1 q2 hj
    conv=>whnf
    (refine gGo ?_; intros)
    refine ⟨seen,j,j,aggV (K.getD j []),.bool true,rfl,(by rw [hx]; exact hj),rfl,?_⟩
    rw [hx]
    conv=>whnf
    have hfl:=List.length_filter_le (isT 3 2) K
    have b1:=cntK_le K 1 2 seen
    have b3:=cntK_le K 1 3 seen
    have b2:c2 ≤ 48 * 48:=by rw [hc2]; exact Nat.mul_le_mul (by omega) (by omega)
    by_cases e0:x0=1
    ·by_cases e2:x2=2
     ·have i1:isT 1 2 [x0,x1,x2,x3]=true:=by subst e0 e2; rfl
      have i2:isT 1 3 [x0,x1,x2,x3]=false:=by subst e0 e2; rfl
      rw [i1,if_pos rfl] at q1
      rw [i2,if_neg (by decide),Nat.add_zero] at q2
      (refine gGo ?_; intros)
      refine ⟨_,_,?_,⟨seen ++ [j],c1 + 1,c2,hs',by rw [q1,hc1],by rw [q2,hc2],rfl,rfl⟩,⟨[(71,71),(92,92)],[],[],.mq (.ci 71 (.ci 92 .nil))⟩⟩
      simp only [List.length_append,List.length_cons,List.length_nil]; omega
     ·by_cases e3:x2=3
      ·have i1:isT 1 2 [x0,x1,x2,x3]=false:=by subst e0 e3; rfl
       have i2:isT 1 3 [x0,x1,x2,x3]=true:=by subst e0 e3; rfl
       rw [i1,if_neg (by decide),Nat.add_zero] at q1
       rw [i2,if_pos rfl] at q2
       (refine gGo ?_; intros)
       refine W.loopG (fun n st=>∃ (se2:List Nat) (c:Nat),Seen K.length se2 ∧ c=c2 + cntK K 3 2 se2 ∧ n=K.length - se2.length ∧ st=⟨[(4,.sl (tblRows L) false),(6,.int .i64 1),(7,.int .i64 2),(8,.int .i64 (1 + (d:Int))),(9,.sl (pthRows P) false),(13,.omap 71 0),(16,.int .i64 (c1:Nat)),(17,.int .i64 (c:Nat)),(92,.bp 92 0),(123,.bp 123 0)],[(71,[.map (arrE (K)) (K).length (some [])]),(92,[.iter 71 0 K.length (seen ++ [j])]),(123,[.iter 71 0 K.length se2])],[71,92,123]⟩)
        K.length _ ⟨[],c2,Seen.nil _,rfl,by simp,rfl⟩ ⟨[(71,71),(92,92),(123,123)],[],[],.mq (.ci 71 (.ci 92 (.ci 123 .nil)))⟩ ?_
       rintro n st ⟨se2,c,hz,hc,rfl,rfl⟩
       refine gA ?_
       have hzl:=hz.len
       refine W.nextMap env hN rfl rfl rfl (by kernel_rfl) rfl rfl rfl (fun hD=>?_) (fun j0 i kk v hi hb=>?_)
       ·have hall2:∀ i,i < K.length → i ∈ se2:=fun i hi=>hD i i _ _ (arrE_get hi)
        rw [cntK_all (hz.perm hall2)] at hc
        conv=>whnf
        (refine gGo ?_; intros)
        refine ⟨_,_,?_,⟨seen ++ [j],c1,c,hs',by rw [q1,hc1],by rw [q2,hc,Nat.add_mul,Nat.one_mul,← hc2],rfl,rfl⟩,⟨[(71,71),(92,92)],[],[],.mq (.ci 71 (.ci 92 .nil))⟩⟩
        simp only [List.length_append,List.length_cons,List.length_nil]; omega
       ·obtain ⟨hil,hbi,hkk,hvv⟩:=arrE_at hi
        have hz':=hz.snoc hil (hbi ▸ hb)
        have hzlen:=hz'.len
        simp only [List.length_append,List.length_cons,List.length_nil] at hzlen
        have z1:=cntK_snoc K 3 2 se2 i
        have z2:=cntK_le K 3 2 se2
        have hk5:(K.getD j0 []).length=4:=hK4 _ (by rw [List.getD_eq_getElem?_getD,List.getElem?_eq_getElem hil]; exact List.getElem_mem hil)
        subst hbi hkk hvv
        obtain ⟨y0,y1,y2,y3,hy⟩:∃ x0 x1 x2 x3,K.getD i []=[x0,x1,x2,x3]:=by
         match K.getD i [],hk5 with
         | [x0,x1,x2,x3],_=>exact ⟨_,_,_,_,rfl⟩
        rw [hy] at z1 hi
        conv=>whnf
        (refine gGo ?_; intros)
        refine ⟨se2,i,i,aggV (K.getD i []),.bool true,rfl,(by rw [hy]; exact hi),rfl,?_⟩
        rw [hy]
        conv=>whnf
        by_cases f0:y0=3
        ·by_cases f2:y2=2
         ·have i3:isT 3 2 [y0,y1,y2,y3]=true:=by subst f0 f2; rfl
          rw [i3,if_pos rfl] at z1
          (refine gGo ?_; intros)
          refine ⟨_,_,?_,⟨se2 ++ [i],c + 1,hz',by rw [z1,hc,Nat.add_assoc],rfl,rfl⟩,⟨[(71,71),(92,92),(123,123)],[],[],.mq (.ci 71 (.ci 92 (.ci 123 .nil)))⟩⟩
          simp only [List.length_append,List.length_cons,List.length_nil]; omega
         ·have i3:isT 3 2 [y0,y1,y2,y3]=false:=by unfold isT; simp [f2]
          rw [i3,if_neg (by decide),Nat.add_zero] at z1
          (refine gGo ?_; intros)
          refine ⟨_,_,?_,⟨se2 ++ [i],c,hz',by rw [z1,hc],rfl,rfl⟩,⟨[(71,71),(92,92),(123,123)],[],[],.mq (.ci 71 (.ci 92 (.ci 123 .nil)))⟩⟩
          simp only [List.length_append,List.length_cons,List.length_nil]; omega
        ·have i3:isT 3 2 [y0,y1,y2,y3]=false:=by unfold isT; simp [f0]
         rw [i3,if_neg (by decide),Nat.add_zero] at z1
         (refine gGo ?_; intros)
         refine ⟨_,_,?_,⟨se2 ++ [i],c,hz',by rw [z1,hc],rfl,rfl⟩,⟨[(71,71),(92,92),(123,123)],[],[],.mq (.ci 71 (.ci 92 (.ci 123 .nil)))⟩⟩
         simp only [List.length_append,List.length_cons,List.length_nil]; omega
      ·have i1:isT 1 2 [x0,x1,x2,x3]=false:=by unfold isT; simp [e2]
       have i2:isT 1 3 [x0,x1,x2,x3]=false:=by unfold isT; simp [e3]
       rw [i1,if_neg (by decide),Nat.add_zero] at q1
       rw [i2,if_neg (by decide),Nat.add_zero] at q2
       (refine gGo ?_; intros)
       refine ⟨_,_,?_,⟨seen ++ [j],c1,c2,hs',by rw [q1,hc1],by rw [q2,hc2],rfl,rfl⟩,⟨[(71,71),(92,92)],[],[],.mq (.ci 71 (.ci 92 .nil))⟩⟩
       simp only [List.length_append,List.length_cons,List.length_nil]; omega
    ·have i1:isT 1 2 [x0,x1,x2,x3]=false:=by unfold isT; simp [e0]
     have i2:isT 1 3 [x0,x1,x2,x3]=false:=by unfold isT; simp [e0]
     rw [i1,if_neg (by decide),Nat.add_zero] at q1
     rw [i2,if_neg (by decide),Nat.add_zero] at q2
     (refine gGo ?_; intros)
     refine ⟨_,_,?_,⟨seen ++ [j],c1,c2,hs',by rw [q1,hc1],by rw [q2,hc2],rfl,rfl⟩,⟨[(71,71),(92,92)],[],[],.mq (.ci 71 (.ci 92 .nil))⟩⟩
     simp only [List.length_append,List.length_cons,List.length_nil]; omega
 ·rw [decide_eq_false hll] at spL
  refine gEn env Tryz.func5 fun Γ hN hK hML=>?_
  (refine gGo ?_; intros)
  (refine gPC (spL) ?_; conv=>whnf)
  (refine gGo ?_; intros)
  (refine gPC (spA) ?_; conv=>whnf)
  (refine gGr ?_; intros)
  exact ret0 rfl rfl rfl
end Go.Sx.Sp
namespace Go.Sx.Sp
open Go Go.Sx Go.Proofs
attribute [local irreducible] GoodW famL
theorem all_calls {w:World} {v0:Value} {u0:V} (r0:VRel w (fun _=>False) (fun _ _=>none) u0 v0)
  (a0:argShape T 2 22 u0) (hg:GRel w (fun _=>False)) :
  Calls Tryz.prog 5 #[v0] w fun e w'=>e=.returned (.bool true) ∧ Go.RowKit.Below w.heap.size w w':=by
 obtain ⟨l,rfl⟩:=arg_ints a0
 refine Spec.law (all_law l) (cargs:=[v0]) rfl (fun j u c hj hc=>?_) rfl hg
 match j with
 | 0=>cases hj; cases hc; exact r0
 | j + 1=>cases hj
end Go.Sx.Sp
