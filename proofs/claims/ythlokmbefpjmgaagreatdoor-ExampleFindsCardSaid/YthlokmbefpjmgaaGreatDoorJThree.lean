/- Contracts of what a plan counts, of relations of columns, and of unused rows. -/
import Derived.Test.YthlokmbefpjmgaaGreatDoorJTwo
import Derived.Test.YthlokmbefpjmgaaGreatDoorSxFive
import Derived.Test.YthlokmbefpjmgaaGreatDoorSxFour
set_option linter.unusedVariables false
set_option linter.unusedSimpArgs false
namespace Go.Sx.Sp
open Go Go.Sx Go.Proofs
attribute [local irreducible] aO famL
def dj(T:List (Str×Int))(c:Cell):List (Str×Int):=if c.null=true then T else addT T c.text 1
def cntC(cs:List Cell):List (Str×Int):=cs.foldl dj []
theorem BE{cs:List Cell}{j:Nat}(h:j<cs.length):cntC (cs.take (j+1))=dj (cntC (cs.take j)) cs[j]:=by
 unfold cntC;rw[List.take_succ_eq_append_getElem h,List.foldl_append];rfl
theorem uk:∀(cs:List Cell) (T:List (Str×Int)) (m:Int),(∀s,0≤a8 T s∧a8 T s≤m)→∀s,0≤a8 (cs.foldl dj T) s∧a8 (cs.foldl dj T) s≤m+cs.length
 | [],T,m,h,s=>by have:=h s;simp;omega
 |c::cs,T,m,h,s=>by
  have:=uk cs (dj T c) (m+1) (fun u=>by
   unfold dj
   have:=h u
   split
   ·omega
   ·rw[oG]
    split
    ·have h2:=h c.text;omega
    ·omega) s
  simp only[List.foldl_cons,List.length_cons];omega
theorem zA(cs:List Cell)(s:Str):0≤a8 (cntC cs) s∧a8 (cntC cs) s≤cs.length:=by
 have:=uk cs [] 0 (fun s=>by simp[a8,aL,ixS]) s;unfold cntC;omega
structure Seen (n:Nat) (seen:List Nat):Prop where
 nd:seen.Nodup
 lt:∀i∈seen,i<n
theorem Seen.nil(n:Nat):Seen n []:=⟨List.nodup_nil,fun i h=>by cases h⟩
theorem Seen.snoc{n:Nat}{seen:List Nat}(h:Seen n seen){j:Nat}(hj:j<n)(hn:j∉seen):Seen n (seen++[j]):=by
 refine⟨List.nodup_append.2 ⟨h.nd,by simp,fun a ha b hb=>?_⟩,fun i hi=>?_⟩
 ·simp at hb;subst hb;exact fun e=>hn (e ▸ ha)
 ·rcases List.mem_append.1 hi with h1|h1
  ·exact h.lt i h1
  ·simp at h1;omega
theorem Seen.len{n:Nat}{seen:List Nat}(h:Seen n seen):seen.length≤n:=by
 have h1:seen ⊆ List.range n:=fun i hi=>List.mem_range.2 (h.lt i hi);have:=h.nd.length_le_of_subset h1;simpa using this
theorem Seen.perm{n:Nat}{seen:List Nat}(h:Seen n seen)(hall:∀i,i<n→i∈seen):seen.Perm (List.range n):=by
 rw[List.perm_iff_count];intro a;rw[h.nd.count,List.nodup_range.count];by_cases e:a<n
 ·rw[if_pos (hall a e),if_pos (List.mem_range.2 e)]
 ·rw[if_neg (fun h1=>e (h.lt a h1)),if_neg (fun h1=>e (List.mem_range.1 h1))]
def valI(T:List (Str×Int))(j:Nat):Int:=(T.getD j ([],0)).2
theorem vI{T:List (Str×Int)}{j:Nat}(h:j<T.length):(sumE T)[j]?=some (j,.str T[j].1,.int .i64 T[j].2):=by
 unfold sumE;rw[el];simp[valT,h]
theorem Do{T:List (Str×Int)}{j b:Nat}{kk v:V}(h:(sumE T)[j]?=some (b,kk,v)):∃h:j<T.length,b=j∧kk=.str T[j].1∧v=.int .i64 T[j].2:=by
 have hj:j<T.length:=by
  have:=(List.getElem?_eq_some_iff.1 h).1
  rwa [rr] at this
 rw[vI hj] at h;cases h;exact⟨hj,rfl,rfl,rfl⟩
theorem oL{T:List (Str×Int)}{m:Int}(hm:0≤m)(h:∀p∈T,0≤p.2∧p.2≤m)(s:Str):0≤a8 T s∧a8 T s≤m:=by
 unfold a8;cases hx:ixS s (aL T) with
 |none=>exact⟨Int.le_refl _,hm⟩
 |some j =>
  have hj:=i9 hx;simp only[List.getD_eq_getElem?_getD,List.getElem?_eq_getElem hj,Option.getD_some];exact h _ (List.getElem_mem hj)
theorem Dp{T:List (Str×Int)}{s:Str}{n:Int}{p:Str×Int}(h:p∈addT T s n):p∈T∨p=(s,a8 T s+n):=by
 unfold addT at h;split at h
 ·exact(List.mem_or_eq_of_mem_set h)
 ·rcases List.mem_append.1 h with h|h
  ·exact .inl h
  ·exact .inr (by simpa using h)
theorem Dq(T:List (Str×Int))(s:Str)(n:Int):(addT T s n).length≤T.length+1:=by
 unfold addT;split<;>simp
theorem w9:∀(cs:List Cell) (T:List (Str×Int)) (m:Int),0≤m→(∀p∈T,0≤p.2∧p.2≤m)→(∀p∈cs.foldl dj T,0≤p.2∧p.2≤m+cs.length)∧(cs.foldl dj T).length≤T.length+cs.length
 | [],T,m,hm,h=>⟨fun p hp=>by have:=h p hp;simp;omega,by simp⟩
 |c::cs,T,m,hm,h=>by
  have hl:=oL hm h;have:=w9 cs (dj T c) (m+1) (by omega) (fun p hp=>by
   unfold dj at hp
   split at hp
   ·have:=h p hp;omega
   ·rcases Dp hp with h1|h1
    ·have:=h p h1;omega
    ·have:=hl c.text
     rw[h1];simp only;omega)
  have h2:(dj T c).length≤T.length+1:=by
   unfold dj;split
   ·omega
   ·exact Dq _ _ _
  simp only[List.foldl_cons,List.length_cons];refine⟨fun p hp=>?_,by omega⟩;have:=this.1 p hp;omega
theorem lD(cs:List Cell):(∀p∈cntC cs,0≤p.2∧p.2≤cs.length)∧(cntC cs).length≤cs.length:=by
 have:=w9 cs [] 0 (by decide) (fun p hp=>by cases hp);simpa[cntC] using this
def relZ:List Int:=[0,0,0,0,0,0,0,0,0,0,0]
def eV(l:List Int):List V:=l.map fun n=>.int .i64 n
theorem dQ(R:List Nod)(N q:Nat):∀(k d:Nat),N-k≤q→k+d≤N→(runD R N (k+d))[q]?=(runD R N k)[q]?
 |k,0,_,_=>rfl
 |k,d+1,hq,hd=>by
  rw[←Nat.add_assoc];simp only[runD];unfold il;split
  ·rw[List.getElem?_set_ne (by omega)];exact dQ R N q k d hq (by omega)
  ·exact dQ R N q k d hq (by omega)
theorem oM(l:List Table)(p:Pth):(aV l p).length=p.steps.length+1:=by
 unfold aV;rw[fM,bW l p _ (Nat.le_refl _)]
theorem j7{R R':List Nod}{n:Nod}(h:∀k∈n.kids,R[k]?=R'[k]?):bg R n=bg R' n:=by
 unfold bg;refine List.map_congr_left fun k hk=>?_;rw[List.getD_eq_getElem?_getD,List.getD_eq_getElem?_getD,h k hk]
theorem Dr(l:List Table)(p:Pth){i:Nat}(hi:i≤p.steps.length):(aV l p)[i]?=some (kw (aV l p) i (aH l p p.steps.length i)):=by
 have hlen:=bW l p p.steps.length (Nat.le_refl _);obtain⟨k,hk⟩:∃k,k+i=p.steps.length:=⟨p.steps.length-i,by omega⟩
 have hnx:(runD (aJ l p p.steps.length) (p.steps.length+1) k)[i]?=some (aH l p p.steps.length i):=by
  obtain⟨d,h1,_,h3⟩:=fo hlen k (by omega) i _ (iq l p (Nat.le_refl _) hi);rw[h1,h3 (by omega)]
 have hst:∀q,i≤q→(aV l p)[q]?=(runD (aJ l p p.steps.length) (p.steps.length+1) (k+1))[q]?:=fun q hq=>by
  unfold aV;have:=dQ (aJ l p p.steps.length) (p.steps.length+1) q (k+1) i (by omega) (by omega);rw[show k+1+i=p.steps.length+1 by omega] at this;exact this
 have hst2:∀q,i<q→(aV l p)[q]?=(runD (aJ l p p.steps.length) (p.steps.length+1) k)[q]?:=fun q hq=>by
  rw[hst q (by omega)];exact dQ (aJ l p p.steps.length) (p.steps.length+1) q k 1 (by omega) (by omega)
 rw[hst i (Nat.le_refl _)];simp only[runD];unfold il;rw[show p.steps.length+1-1-k=i by omega,hnx];simp only;rw[List.getElem?_set_self (List.getElem?_eq_some_iff.1 hnx).1];congr 1;have hko:bg (runD (aJ l p p.steps.length) (p.steps.length+1) k) (aH l p p.steps.length i)=bg (aV l p) (aH l p p.steps.length i):=by
  refine j7 fun q hq=>?_;rw[cu] at hq;obtain⟨q',g1,g2,rfl⟩:=cI.1 hq;have:=bz p (i:=q') (by omega);exact(hst2 _ (by omega)).symm
 unfold kw;rw[hko]
def aK(l:List Table)(p:Pth)(i:Nat):List Int:=(List.range (ab (aH l p p.steps.length i).t)).map (cntR (bg (aV l p) (aH l p p.steps.length i)) (aH l p p.steps.length i).t)
def jo(l:List Table)(p:Pth)(i:Nat):List (Str×Int):=if i=0 then [] else talR (aH l p p.steps.length i).t (aH l p p.steps.length i).own (cntR (bg (aV l p) (aH l p p.steps.length i)) (aH l p p.steps.length i).t) (ab (aH l p p.steps.length i).t)
theorem kV(l:List Table)(p:Pth){i:Nat}(hi:i≤p.steps.length):(aV l p)[i]?=some { aH l p p.steps.length i with done:=some (aK l p i,jo l p i) }:=Dr l p hi
theorem cA(l:List Table)(p:Pth)(i:Nat):(aK l p i).length=ab (aH l p p.steps.length i).t:=by simp[aK]
def rC(l:List Table)(p:Pth):List Int×Int:=if aD l p=0 then(aK l p 0,0) else([],aD l p)
def mostB(r:List Int):Int:=r.getD 8 0
structure Rep where
 rows:Int
 lost:Int
 most:Int
 unused:List Int
 deriving DecidableEq
def Rep.row(r:Rep):List V:=[.int .i64 r.rows,.int .i64 r.lost,.int .i64 r.most,.sl (aq .i64 r.unused) false]
def addS(l:List Str)(s:Str):List Str:=match ixS s l with|some _=>l|none=>l++[s]
theorem xc{l:List Str}{s u:Str}:u∈addS l s↔u∈l∨u=s:=by
 unfold addS;cases h:ixS s l with
 |none=>simp
 |some j =>
  have:=List.mem_of_getElem? (ek h);simp only;exact⟨.inl,fun h=>h.elim id (fun e=>e ▸ this)⟩
theorem setK(l:List Str):aL (l.map fun s=>(s,V.bool true))=l:=by
 unfold aL;rw[List.map_map];exact List.map_id l
def hasU(U:Nat→Option (List Str))(k:Nat)(s:Str):Bool:=match U k with|some l=>decide (s∈l)|none=>false
def insU(U:Nat→Option (List Str))(k:Nat)(s:Str):Nat→Option (List Str):=fun j=>if j=k then some (addS ((U k).getD []) s) else U j
structure UOK (N:Nat) (sl:List (Option Nat)) (fam:List (List Str)) (U:Nat→Option (List Str)):Prop where
 len:sl.length=N
 get:∀(k q:Nat),sl[k]?=some (some q)→∃l,fam[q]?=some l∧U k=some l
 non:∀k,sl[k]?=some none→U k=none
 inj:∀(k k' q:Nat),sl[k]?=some (some q)→sl[k']?=some (some q)→k=k'
theorem UOK.add{N:Nat}{sl:List (Option Nat)}{fam:List (List Str)}{U:Nat→Option (List Str)}(h:UOK N sl fam U){k:Nat}(hk:sl[k]?=some none):UOK N (sl.set k (some fam.length)) (fam++[[]]) (fun j=>if j=k then some [] else U j):=by
 have hlt:=(List.getElem?_eq_some_iff.1 hk).1;refine⟨by simp[h.len],fun j q hj=>?_,fun j hj=>?_,fun j j' q hj hj'=>?_⟩
 ·rw[List.getElem?_set] at hj;by_cases e:k=j
  ·subst e;rw[if_pos rfl,if_pos hlt] at hj;cases hj;exact⟨[],by simp,by simp⟩
  ·rw[if_neg e] at hj;obtain⟨l,h1,h2⟩:=h.get j q hj;have:=(List.getElem?_eq_some_iff.1 h1).1;exact⟨l,by rw[List.getElem?_append_left this,h1],by rw[if_neg (Ne.symm e),h2]⟩
 ·rw[List.getElem?_set] at hj;by_cases e:k=j
  ·subst e;rw[if_pos rfl,if_pos hlt] at hj;cases hj
  ·rw[if_neg e] at hj;simp only[if_neg (Ne.symm e)];exact h.non j hj
 ·rw[List.getElem?_set] at hj hj';by_cases e:k=j<;>by_cases e':k=j'
  ·omega
  ·subst e;rw[if_pos rfl,if_pos hlt] at hj;rw[if_neg e'] at hj';cases hj;obtain⟨l,h1,_⟩:=h.get _ _ hj';have:=(List.getElem?_eq_some_iff.1 h1).1;omega
  ·subst e';rw[if_pos rfl,if_pos hlt] at hj';rw[if_neg e] at hj;cases hj';obtain⟨l,h1,_⟩:=h.get _ _ hj;have:=(List.getElem?_eq_some_iff.1 h1).1;omega
  ·rw[if_neg e] at hj;rw[if_neg e'] at hj';exact h.inj j j' q hj hj'
def lX(U:Nat→Option (List Str))(i:Nat)(n:Nod)(c:List Int)(r:Nat):Bool:=decide (c.getD r 0=0) ||(decide (0<i)&&((ay n.t n.own r).null||!hasU U i (ay n.t n.own r).text))
def pC(R:List Nod)(n:Nod)(r:Nat)(U:Nat→Option (List Str))(j:Nat):Nat→Option (List Str):=(n.kids.take j).foldl (fun U k=>insU U k (ay n.t (R.getD k n).fr r).text) U
structure US where
 unused:Int
 U:Nat→Option (List Str)
def rowU(R:List Nod)(i:Nat)(n:Nod)(c:List Int)(S:US)(r:Nat):US:=if lX S.U i n c r=true then⟨S.unused+1,S.U⟩ else⟨S.unused,pC R n r S.U n.kids.length⟩
def f7(R:List Nod)(i:Nat)(n:Nod)(c:List Int)(U:Nat→Option (List Str))(r:Nat):US:=(List.range r).foldl (rowU R i n c) ⟨0,U⟩
def cntD(n:Nod):List Int:=match n.done with|some d=>d.1|none=>[]
def fq(R:List Nod):Nat→List Int×(Nat→Option (List Str))
 | 0=>([],fun _=>none)
 |i+1=>match R[i]? with
  |some n=>let S:=f7 R i n (cntD n) (fq R i).2 (cntD n).length
   (if 0<i then(fq R i).1++[S.unused] else(fq R i).1,S.U)
  |none=>fq R i
theorem zB(R:List Nod)(i:Nat)(n:Nod)(c:List Int)(U:Nat→Option (List Str))(r:Nat):f7 R i n c U (r+1)=rowU R i n c (f7 R i n c U r) r:=by
 unfold f7;rw[List.range_succ,List.foldl_append];rfl
theorem zC(R:List Nod)(n:Nod)(r:Nat)(U:Nat→Option (List Str)){j:Nat}(h:j<n.kids.length):pC R n r U (j+1)=insU (pC R n r U j) n.kids[j] (ay n.t (R.getD n.kids[j] n).fr r).text:=by
 unfold pC;rw[List.take_succ_eq_append_getElem h,List.foldl_append];rfl
theorem one_gat{d F n sz:Nat}{r:List V}(h:gatL d F n r=r):BGat d F n (.rows sz [r] none) (.rows sz [r] none):=by
 refine .rows sz _ _ none none rfl fun i r1 hi=>?_;cases i with
 |succ i=>simp at hi
 |zero=>cases hi;exact⟨r,rfl,h.symm,fun l hl=>by cases hl⟩
end Go.Sx.Sp
