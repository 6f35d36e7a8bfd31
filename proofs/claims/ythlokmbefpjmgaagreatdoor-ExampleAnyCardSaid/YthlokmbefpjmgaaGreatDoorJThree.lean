/- Contracts of what a plan counts, of relations of columns, and of unused rows. -/
import Derived.Test.YthlokmbefpjmgaaGreatDoorJTwo
import Derived.Test.YthlokmbefpjmgaaGreatDoorSxFive
import Derived.Test.YthlokmbefpjmgaaGreatDoorSxFour
set_option linter.unusedVariables false
set_option linter.unusedSimpArgs false
namespace Go.Sx.Sp
open Go Go.Sx Go.Proofs
attribute [local irreducible] GoodW famL
structure Seen (n:Nat) (seen:List Nat):Prop where
 nd:seen.Nodup
 lt:∀ i∈seen,i<n
theorem Seen.nil (n:Nat):Seen n []:=⟨List.nodup_nil,fun i h=>by cases h⟩
theorem Seen.snoc {n:Nat}{seen:List Nat}(h:Seen n seen) {j:Nat}(hj:j<n) (hn:j∉seen):Seen n (seen++[j]):=by
 refine ⟨List.nodup_append.2 ⟨h.nd,by simp,fun a ha b hb=>?_⟩,fun i hi=>?_⟩
 ·simp at hb;subst hb;exact fun e=>hn (e ▸ ha)
 ·rcases List.mem_append.1 hi with h1 | h1
  ·exact h.lt i h1
  ·simp at h1;omega
theorem Seen.len {n:Nat}{seen:List Nat}(h:Seen n seen):seen.length≤n:=by
 have h1:seen ⊆ List.range n:=fun i hi=>List.mem_range.2 (h.lt i hi);have:=h.nd.length_le_of_subset h1;simpa using this
def intsV (l:List Int):List V:=l.map fun n=>.int .i64 n
theorem run_stable (R:List Nod) (N q:Nat):∀ (k d:Nat),N-k≤q→k+d≤N→(runD R N (k+d))[q]?=(runD R N k)[q]?
 | k,0,_,_=>rfl
 | k,d+1,hq,hd=>by
  rw [←Nat.add_assoc];simp only [runD];unfold stepD;split
  ·rw [List.getElem?_set_ne (by omega)];exact run_stable R N q k d hq (by omega)
  ·exact run_stable R N q k d hq (by omega)
theorem planN_len (l:List Table) (p:Pth):(planN l p).length=p.steps.length+1:=by
 unfold planN;rw [runD_len,nodesN_len l p _ (Nat.le_refl _)]
theorem kidsOf_congr {R R':List Nod}{n:Nod}(h:∀ k∈n.kids,R[k]?=R'[k]?):kidsOf R n=kidsOf R' n:=by
 unfold kidsOf;refine List.map_congr_left fun k hk=>?_;rw [List.getD_eq_getElem?_getD,List.getD_eq_getElem?_getD,h k hk]
theorem plan_fix (l:List Table) (p:Pth) {i:Nat}(hi:i≤p.steps.length):(planN l p)[i]?=some (doneR (planN l p) i (nodeAt l p p.steps.length i)):=by
 have hlen:=nodesN_len l p p.steps.length (Nat.le_refl _);obtain ⟨k,hk⟩:∃ k,k+i=p.steps.length:=⟨p.steps.length-i,by omega⟩
 have hnx:(runD (nodesN l p p.steps.length) (p.steps.length+1) k)[i]?=some (nodeAt l p p.steps.length i):=by
  obtain ⟨d,h1,_,h3⟩:=runD_shape hlen k (by omega) i _ (nodesN_get l p (Nat.le_refl _) hi);rw [h1,h3 (by omega)]
 have hst:∀ q,i≤q→(planN l p)[q]?=(runD (nodesN l p p.steps.length) (p.steps.length+1) (k+1))[q]?:=fun q hq=>by
  unfold planN;have:=run_stable (nodesN l p p.steps.length) (p.steps.length+1) q (k+1) i (by omega) (by omega);rw [show k+1+i=p.steps.length+1 by omega] at this;exact this
 have hst2:∀ q,i<q→(planN l p)[q]?=(runD (nodesN l p p.steps.length) (p.steps.length+1) k)[q]?:=fun q hq=>by
  rw [hst q (by omega)];exact run_stable (nodesN l p p.steps.length) (p.steps.length+1) q k 1 (by omega) (by omega)
 rw [hst i (Nat.le_refl _)];simp only [runD];unfold stepD;rw [show p.steps.length+1-1-k=i by omega,hnx];simp only;rw [List.getElem?_set_self (List.getElem?_eq_some_iff.1 hnx).1];congr 1;have hko:kidsOf (runD (nodesN l p p.steps.length) (p.steps.length+1) k) (nodeAt l p p.steps.length i)=kidsOf (planN l p) (nodeAt l p p.steps.length i):=by
  refine kidsOf_congr fun q hq=>?_;rw [nodeAt_kids] at hq;obtain ⟨q',g1,g2,rfl⟩:=kidsL_mem.1 hq;have:=parI_le p (i:=q') (by omega);exact (hst2 _ (by omega)).symm
 unfold doneR;rw [hko]
def cntsN (l:List Table) (p:Pth) (i:Nat):List Int:=(List.range (rowsN (nodeAt l p p.steps.length i).t)).map (cntR (kidsOf (planN l p) (nodeAt l p p.steps.length i)) (nodeAt l p p.steps.length i).t)
def talsN (l:List Table) (p:Pth) (i:Nat):List (Str×Int):=if i=0 then [] else talR (nodeAt l p p.steps.length i).t (nodeAt l p p.steps.length i).own (cntR (kidsOf (planN l p) (nodeAt l p p.steps.length i)) (nodeAt l p p.steps.length i).t) (rowsN (nodeAt l p p.steps.length i).t)
theorem plan_get (l:List Table) (p:Pth) {i:Nat}(hi:i≤p.steps.length):(planN l p)[i]?=some { nodeAt l p p.steps.length i with done:=some (cntsN l p i,talsN l p i) }:=plan_fix l p hi
theorem cntsN_len (l:List Table) (p:Pth) (i:Nat):(cntsN l p i).length=rowsN (nodeAt l p p.steps.length i).t:=by simp [cntsN]
structure Rep where
 rows:Int
 lost:Int
 most:Int
 unused:List Int
 deriving DecidableEq
def Rep.row (r:Rep):List V:=[.int .i64 r.rows,.int .i64 r.lost,.int .i64 r.most,.sl (intRows .i64 r.unused) false]
theorem setK (l:List Str):keysT (l.map fun s=>(s,V.bool true))=l:=by
 unfold keysT;rw [List.map_map];exact List.map_id l
structure UOK (N:Nat) (sl:List (Option Nat)) (fam:List (List Str)) (U:Nat→Option (List Str)):Prop where
 len:sl.length=N
 get:∀ (k q:Nat),sl[k]?=some (some q)→∃ l,fam[q]?=some l∧U k=some l
 non:∀ k,sl[k]?=some none→U k=none
 inj:∀ (k k' q:Nat),sl[k]?=some (some q)→sl[k']?=some (some q)→k=k'
theorem UOK.add {N:Nat}{sl:List (Option Nat)}{fam:List (List Str)}{U:Nat→Option (List Str)}(h:UOK N sl fam U) {k:Nat}(hk:sl[k]?=some none):UOK N (sl.set k (some fam.length)) (fam++[[]]) (fun j=>if j=k then some [] else U j):=by
 have hlt:=(List.getElem?_eq_some_iff.1 hk).1;refine ⟨by simp [h.len],fun j q hj=>?_,fun j hj=>?_,fun j j' q hj hj'=>?_⟩
 ·rw [List.getElem?_set] at hj;by_cases e:k=j
  ·subst e;rw [if_pos rfl,if_pos hlt] at hj;cases hj;exact ⟨[],by simp,by simp⟩
  ·rw [if_neg e] at hj;obtain ⟨l,h1,h2⟩:=h.get j q hj;have:=(List.getElem?_eq_some_iff.1 h1).1;exact ⟨l,by rw [List.getElem?_append_left this,h1],by rw [if_neg (Ne.symm e),h2]⟩
 ·rw [List.getElem?_set] at hj;by_cases e:k=j
  ·subst e;rw [if_pos rfl,if_pos hlt] at hj;cases hj
  ·rw [if_neg e] at hj;simp only [if_neg (Ne.symm e)];exact h.non j hj
 ·rw [List.getElem?_set] at hj hj';by_cases e:k=j<;>by_cases e':k=j'
  ·omega
  ·subst e;rw [if_pos rfl,if_pos hlt] at hj;rw [if_neg e'] at hj';cases hj;obtain ⟨l,h1,_⟩:=h.get _ _ hj';have:=(List.getElem?_eq_some_iff.1 h1).1;omega
  ·subst e';rw [if_pos rfl,if_pos hlt] at hj';rw [if_neg e] at hj;cases hj';obtain ⟨l,h1,_⟩:=h.get _ _ hj;have:=(List.getElem?_eq_some_iff.1 h1).1;omega
  ·rw [if_neg e] at hj;rw [if_neg e'] at hj';exact h.inj j j' q hj hj'
theorem one_gat {d F n sz:Nat}{r:List V}(h:gatL d F n r=r):BGat d F n (.rows sz [r] none) (.rows sz [r] none):=by
 refine .rows sz _ _ none none rfl fun i r1 hi=>?_;cases i with
 | succ i=>simp at hi
 | zero=>cases hi;exact ⟨r,rfl,h.symm,fun l hl=>by cases hl⟩
end Go.Sx.Sp
