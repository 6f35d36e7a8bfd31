/- Steps in maps, and the ways from a table. -/
import Derived.Test.YthlokmbefpjmgaaGreatDoorRtOne
import Derived.Test.YthlokmbefpjmgaaGreatDoorSxFive
import Derived.Test.YthlokmbefpjmgaaGreatDoorSxFour
set_option linter.unusedVariables false
set_option linter.unusedSimpArgs false
namespace Go.Sx.Sp
open Go Go.Sx Go.Proofs
attribute [local irreducible] GoodW famL
def tabI:Nat→List (Int×V)→List (Nat×V×V)
 | _,[]=>[]
 | k,p::l=>(k,.int .i64 p.1,p.2)::tabI (k+1) l
theorem tabI_len:∀ (T:List (Int×V)) (k:Nat),(tabI k T).length=T.length
 | [],_=>rfl
 | p::T,k=>by simp [tabI,tabI_len T]
theorem tabI_at (s:Int):∀ (T:List (Int×V)) (k:Nat),mapAt (.int .i64 s) (tabI k T)=some ((ixI s (keysS T)).map fun i=>(i,k+i,(T.getD i (0,.dead)).2))
 | [],k=>rfl
 | (u,v)::T,k=>by
  by_cases h:s=u
  ·subst h;simp [tabI,mapAt,eqKey,ixI,keysS]
  ·have:=tabI_at s T (k+1);simp only [tabI,mapAt,eqKey,h,decide_false,decide_true,this,ixI,keysS,List.map_cons,if_false];simp only [keysS] at this;cases ixI s (T.map (·.1)) with
   | none=>rfl
   | some i =>
    simp only [Option.map_some];rw [show k+1+i=k+(i+1) by omega];simp
theorem tabI_snoc (s:Int) (v:V):∀ (T:List (Int×V)) (k:Nat),tabI k (T++[(s,v)])=tabI k T++[(k+T.length,.int .i64 s,v)]
 | [],k=>rfl
 | p::T,k=>by
  simp only [List.cons_append,tabI,tabI_snoc s v T (k+1),List.length_cons];rw [show k+1+T.length=k+(T.length+1) by omega]
theorem tabI_get:∀ (T:List (Int×V)) (k j:Nat),(tabI k T)[j]?=(T[j]?).map fun p=>(k+j,.int .i64 p.1,p.2)
 | [],k,j=>by simp [tabI]
 | p::T,k,0=>by simp [tabI]
 | p::T,k,j+1=>by
  simp only [tabI,List.getElem?_cons_succ];rw [tabI_get T (k+1) j,show k+1+j=k+(j+1) by omega]
def ownVS (F k:Nat):BunS→List (Int×V)
 | []=>[]
 | p::T=>(p.1,.osl F (k+2) 0 p.2.length p.2.length)::ownVS F (k+1) T
def ownES (F:Nat) (T:BunS):List (Nat×V×V):=tabI 0 (ownVS F 0 T)
def datES (T:BunS):List (Nat×V×V):=tabI 0 (T.map fun p=>(p.1,.sl (stpRows p.2) false))
def lisS (L:List Stp):Blk:=.rows 4 (stpRows L) (some [])
def ownFS (T:BunS):List Blk:=lisS []::lisS []::T.map fun p=>lisS p.2
theorem ownFS_fam (T:BunS):∀ b∈ownFS T,b.famB=true:=fun b hb=>by
 unfold ownFS at hb;rcases List.mem_cons.1 hb with rfl | hb
 ·rfl
 rcases List.mem_cons.1 hb with rfl | hb
 ·rfl
 obtain ⟨x,_,rfl⟩:=List.mem_map.1 hb;rfl
theorem ownFS_len (T:BunS):(ownFS T).length=T.length+2:=by simp [ownFS]
theorem ownFS_get {T:BunS}{j:Nat}{q:Int×List Stp}(h:T[j]?=some q):(ownFS T)[j+2]?=some (lisS q.2):=by
 unfold ownFS;rw [List.getElem?_cons_succ,List.getElem?_cons_succ,List.getElem?_map,h];rfl
theorem ownVS_len (F:Nat):∀ (T:BunS) (k:Nat),(ownVS F k T).length=T.length
 | [],_=>rfl
 | p::T,k=>by simp [ownVS,ownVS_len F T]
theorem ownVS_keys (F:Nat):∀ (T:BunS) (k:Nat),keysS (ownVS F k T)=keysS T
 | [],_=>rfl
 | p::T,k=>by
  have:=ownVS_keys F T (k+1);simp only [keysS] at this ⊢;simp [ownVS,this]
theorem ownVS_get (F:Nat):∀ (T:BunS) (k j:Nat),(ownVS F k T)[j]?=(T[j]?).map fun p=>(p.1,.osl F (k+j+2) 0 p.2.length p.2.length)
 | [],k,j=>by simp [ownVS]
 | p::T,k,0=>by simp [ownVS]
 | p::T,k,j+1=>by
  simp only [ownVS,List.getElem?_cons_succ];rw [ownVS_get F T (k+1) j,show k+1+j=k+(j+1) by omega]
theorem ownES_len (F:Nat) (T:BunS):(ownES F T).length=T.length:=by simp [ownES,tabI_len,ownVS_len]
theorem ownES_get (F:Nat) (T:BunS) (j:Nat):(ownES F T)[j]?=(T[j]?).map fun p=>(j,.int .i64 p.1,.osl F (j+2) 0 p.2.length p.2.length):=by
 unfold ownES;rw [tabI_get,ownVS_get];cases T[j]?<;>simp
theorem ownES_at (F:Nat) (T:BunS) (s:Int):mapAt (.int .i64 s) (ownES F T)=some ((ixI s (keysS T)).map fun j=>(j,j,.osl F (j+2) 0 (lookS T s).length (lookS T s).length)):=by
 unfold ownES;rw [tabI_at,ownVS_keys];cases h:ixI s (keysS T) with
 | none=>rfl
 | some j =>
  have h1:=lookS_at h;have h2:=ownVS_get F T 0 j;rw [h1] at h2;simp only [Option.map_some] at h2 ⊢;rw [List.getD_eq_getElem?_getD,h2];simp
theorem ownES_set {F:Nat}{T:BunS}{s:Int}{x:Stp}{j n:Nat}(h:ixI s (keysS T)=some j) (hn:n=(lookS T s).length+1):(ownES F T).set j (j,.int .i64 s,.osl F (j+2) 0 n n)=ownES F (addZ T s x):=by
 rw [addZ_some h];apply List.ext_getElem?;intro k;have hj:=ixI_lt h;have hj2:j<T.length:=by simpa [keysS] using hj
 unfold ownES;rw [List.getElem?_set,tabI_len,ownVS_len,tabI_get,tabI_get,ownVS_get,ownVS_get,List.getElem?_set];by_cases e:j=k
 ·subst e;simp [hj2,hn]
 ·simp [e]
theorem ownFS_set {T:BunS}{s:Int}{x:Stp}{j:Nat}(h:ixI s (keysS T)=some j):(ownFS T).set (j+2) (lisS (lookS T s++[x]))=ownFS (addZ T s x):=by
 rw [addZ_some h];unfold ownFS;rw [List.map_set];rfl
theorem ownFS_new {T:BunS}{s:Int}{x:Stp}(h:ixI s (keysS T)=none):ownFS T++[lisS [x]]=ownFS (addZ T s x):=by
 rw [addZ_none h];simp [ownFS]
theorem ownES_gat {T:BunS}{s:Int}{x:Stp}{d F c c1:Nat}(hdF:d≠F) (h:ixI s (keysS T)=none) (hc:c=T.length) (ks:Option (List Nat)):BGat d F (T.length+2) (.map (ownES F T++[(c,.int .i64 s,.osl d 0 0 1 1)]) c1 ks) (.map (ownES F (addZ T s x)) c1 (some [F])):=by
 subst hc;have hl:(ownES F (addZ T s x)).length=T.length+1:=by rw [ownES_len,addZ_none h];simp
 refine .map _ _ _ _ _ (by rw [hl,List.length_append,ownES_len];rfl) fun j b k v1 hj=>?_;have hjl:j<T.length+1:=by
  have:=(List.getElem?_eq_some_iff.1 hj).1
  rwa [hl] at this
 rw [ownES_get,addZ_none h] at hj;by_cases e:j=T.length
 ·subst e;rw [List.getElem?_append_right (Nat.le_refl _),Nat.sub_self] at hj;simp only [List.getElem?_cons_zero,Option.map_some,Option.some.injEq,Prod.mk.injEq] at hj;obtain ⟨rfl,rfl,rfl⟩:=hj;refine ⟨.osl d 0 0 1 1,?_,?_,fun l hl s hs=>?_⟩
  ·rw [List.getElem?_append_right (by rw [ownES_len];exact Nat.le_refl _),ownES_len,Nat.sub_self];rfl
  ·simp [V.gat]
  ·cases hl;simpa [V.sites] using hs
 ·have hj2:j<T.length:=by omega
  rw [List.getElem?_append_left hj2,List.getElem?_eq_getElem hj2] at hj;simp only [Option.map_some,Option.some.injEq,Prod.mk.injEq] at hj;obtain ⟨rfl,rfl,rfl⟩:=hj;refine ⟨.osl F (j+2) 0 T[j].2.length T[j].2.length,?_,?_,fun l hl s hs=>?_⟩
  ·rw [List.getElem?_append_left (by rw [ownES_len];exact hj2),ownES_get,List.getElem?_eq_getElem hj2];simp
  ·simp [V.gat,hj2,Ne.symm hdF]
  ·cases hl;simpa [V.sites] using hs
theorem ownES_sites {F:Nat}{T:BunS}:∀ (i:Nat) b key v,(ownES F T)[i]?=some (b,key,v)→∀ s∈v.sites,s∈[F]:=fun i b key v hi s hs=>by
 rw [ownES_get] at hi;cases hT:T[i]? with
 | none=>rw [hT] at hi;simp at hi
 | some q =>
  rw [hT] at hi;simp only [Option.map_some,Option.some.injEq,Prod.mk.injEq] at hi;obtain ⟨rfl,rfl,rfl⟩:=hi;simpa [V.sites] using hs
theorem datES_look (T:BunS) (s:Int):∃ r,mapAt (.int .i64 s) (datES T)=some r∧((ixI s (keysS T)=none∧r=none)∨∃ j,ixI s (keysS T)=some j∧r=some (j,j,.sl (stpRows (lookS T s)) false)):=by
 unfold datES;refine ⟨_,tabI_at s _ 0,?_⟩;have hk:keysS (T.map fun p=>(p.1,V.sl (stpRows p.2) false))=keysS T:=by simp [keysS]
 rw [hk];cases h:ixI s (keysS T) with
 | none=>exact .inl ⟨rfl,rfl⟩
 | some j =>
  refine .inr ⟨j,rfl,?_⟩;have h1:=lookS_at h;simp [List.getD_eq_getElem?_getD,h1]
theorem datES_pure (T:BunS) (ks:Option (List Nat)):pureEs (datES T) ks:=.inr fun p hp=>by
 obtain ⟨j,hj⟩:=List.getElem?_of_mem hp;unfold datES at hj;rw [tabI_get,List.getElem?_map] at hj;cases hT:T[j]? with
 | none=>rw [hT] at hj;simp at hj
 | some q=>rw [hT] at hj;simp at hj;rw [←hj];simp [V.sites]
def mixV (F:Nat) (f:List Stp→List Stp) (dn:List Nat) (k:Nat):BunS→List (Int×V)
 | []=>[]
 | p::T=>(p.1,if k∈dn then .sl (stpRows (f p.2)) false else .osl F (k+2) 0 p.2.length p.2.length)::mixV F f dn (k+1) T
def mixES (F:Nat) (f:List Stp→List Stp) (dn:List Nat) (T:BunS):List (Nat×V×V):=tabI 0 (mixV F f dn 0 T)
theorem mixV_len (F:Nat) (f:List Stp→List Stp) (dn:List Nat):∀ (T:BunS) (k:Nat),(mixV F f dn k T).length=T.length
 | [],_=>rfl
 | p::T,k=>by simp [mixV,mixV_len F f dn T]
theorem mixV_keys (F:Nat) (f:List Stp→List Stp) (dn:List Nat):∀ (T:BunS) (k:Nat),keysS (mixV F f dn k T)=keysS T
 | [],_=>rfl
 | p::T,k=>by
  have:=mixV_keys F f dn T (k+1);simp only [keysS] at this ⊢;simp [mixV,this]
theorem mixV_get (F:Nat) (f:List Stp→List Stp) (dn:List Nat):∀ (T:BunS) (k j:Nat),(mixV F f dn k T)[j]?=(T[j]?).map fun p=>(p.1,if k+j∈dn then .sl (stpRows (f p.2)) false else .osl F (k+j+2) 0 p.2.length p.2.length)
 | [],k,j=>by simp [mixV]
 | p::T,k,0=>by simp [mixV]
 | p::T,k,j+1=>by
  simp only [mixV,List.getElem?_cons_succ];rw [mixV_get F f dn T (k+1) j,show k+1+j=k+(j+1) by omega]
theorem mixES_len (F:Nat) (f:List Stp→List Stp) (dn:List Nat) (T:BunS):(mixES F f dn T).length=T.length:=by simp [mixES,tabI_len,mixV_len]
theorem mixES_get (F:Nat) (f:List Stp→List Stp) (dn:List Nat) (T:BunS) (j:Nat):(mixES F f dn T)[j]?=(T[j]?).map fun p=>(j,.int .i64 p.1,if j∈dn then .sl (stpRows (f p.2)) false else .osl F (j+2) 0 p.2.length p.2.length):=by
 unfold mixES;rw [tabI_get,mixV_get];cases T[j]?<;>simp
theorem mixES_nil (F:Nat) (f:List Stp→List Stp) (T:BunS):mixES F f [] T=ownES F T:=by
 apply List.ext_getElem?;intro j;rw [mixES_get,ownES_get];simp
theorem mixES_all (F:Nat) (f:List Stp→List Stp) (dn:List Nat) (T:BunS) (h:∀ j,j<T.length→j∈dn):mixES F f dn T=datES (T.map fun p=>(p.1,f p.2)):=by
 apply List.ext_getElem?;intro j;rw [mixES_get];unfold datES;rw [tabI_get,List.getElem?_map,List.getElem?_map];by_cases hj:j<T.length
 ·rw [List.getElem?_eq_getElem hj];simp [h j hj]
 ·rw [List.getElem?_eq_none (by omega)];rfl
theorem mixES_at (F:Nat) (f:List Stp→List Stp) (dn:List Nat) (T:BunS) (s:Int) {j:Nat}(h:ixI s (keysS T)=some j):mapAt (.int .i64 s) (mixES F f dn T)=some (some (j,j,if j∈dn then .sl (stpRows (f (lookS T s))) false else .osl F (j+2) 0 (lookS T s).length (lookS T s).length)):=by
 unfold mixES;rw [tabI_at,mixV_keys,h];have h1:=lookS_at h;have h2:=mixV_get F f dn T 0 j;rw [h1] at h2;simp only [Option.map_some] at h2 ⊢;rw [List.getD_eq_getElem?_getD,h2];simp
theorem ixI_nodup {l:List Int}(h:l.Nodup) {j:Nat}{s:Int}(hj:l[j]?=some s):ixI s l=some j:=by
 induction l generalizing j with
 | nil=>simp at hj
 | cons u l ih =>
  obtain ⟨h1,h2⟩:=List.nodup_cons.1 h;cases j with
  | zero=>simp at hj;subst hj;simp [ixI]
  | succ j =>
   simp at hj;have hm:=List.mem_of_getElem? hj;have hne:¬ s=u:=fun e=>by subst e;exact h1 hm
   simp [ixI,hne,ih h2 hj]
theorem mixES_done {F:Nat}{f:List Stp→List Stp}{dn:List Nat}{T:BunS}{s:Int}{j:Nat}(h:ixI s (keysS T)=some j):(mixES F f dn T).set j (j,.int .i64 s,.sl (stpRows (f (lookS T s))) false)=mixES F f (dn++[j]) T:=by
 apply List.ext_getElem?;intro k;have hj:=ixI_lt h;have hj2:j<T.length:=by simpa [keysS] using hj
 rw [List.getElem?_set,mixES_len,mixES_get,mixES_get];by_cases e:j=k
 ·subst e;rw [if_pos rfl,if_pos hj2,lookS_at h];simp
 ·rw [if_neg e];have:k∈dn++[j]↔k∈dn:=by simp [Ne.symm e]
  simp [this]
end Go.Sx.Sp
namespace Go.Sx.Sp
open Go Go.Sx Go.Proofs Go.Sort
attribute [local irreducible] GoodW famL
theorem eqI_ref:EqI Tryz.prog 9999 67 2:=
 eqI_two (d:=9998) (n0:=1) (n1:=1) Tryz.underlying67 (by kernel_rfl) (by kernel_rfl) (by kernel_rfl) rfl rfl Tryz.isAgg67 Tryz.sizeOf67 (eqI_int Tryz.underlying3) (eqI_int Tryz.underlying3)
theorem eqI_step:EqI Tryz.prog 10000 99 4:=
 eqI_two (d:=9999) (n0:=2) (n1:=2) Tryz.underlying99 (by kernel_rfl) (by kernel_rfl) (by kernel_rfl) rfl rfl Tryz.isAgg99 Tryz.sizeOf99 eqI_ref eqI_ref
theorem step_eq (c d:Stp):([c.ft,c.fc,c.tt,c.tc]=[d.ft,d.fc,d.tt,d.tc])↔c=d:=by
 cases c;cases d;simp
theorem steps_ne {N:NB}{o:Oper}{h:Nat→List Blk}{ρ:Operand→V}{t':Nat}{x y:Operand}(hop:o.op=.binOp .neq 99 x y t') (c d:Stp) (hx:ρ x=.agg c.row) (hy:ρ y=.agg d.row) (hd:dstOK N o.dst=true):GoodW Tryz.prog N o ρ h (.bool (!decide (c=d))) [] []:=by
 have h1:=aggI_good (P:=Tryz.prog) (N:=N) (h:=h) (ρ:=ρ) (op:=.neq) hop (.inr rfl) (by kernel_rfl)
  (fun l l' w a b=>eqI_step.equal rfl Tryz.isAgg99 Tryz.sizeOf99 a b w) (l:=[c.ft,c.fc,c.tt,c.tc]) (l':=[d.ft,d.fc,d.tt,d.tc]) rfl rfl hx hy
 have e:decide (c=d)=decide ([c.ft,c.fc,c.tt,c.tc]=[d.ft,d.fc,d.tt,d.tc]):=decide_eq_decide.2 (step_eq c d).symm;rw [e];exact h1.toW hd
structure FamOK (B:BunS) (seen:List Nat) (L:List Blk):Prop where
 fam:∀ b∈L,b.famB=true
 len:L.length=B.length+2
 at_:∀ (j:Nat) p,B[j]?=some p→j∉seen→L[j+2]?=some (lisS p.2)
theorem FamOK.start (B:BunS):FamOK B [] (ownFS B):=⟨ownFS_fam _,ownFS_len _,fun j p h _=>ownFS_get h⟩
theorem FamOK.done {B:BunS}{seen:List Nat}{L:List Blk}(h:FamOK B seen L) (j:Nat) {b:Blk}(hb:b.famB=true):FamOK B (seen++[j]) (L.set (j+2) b):=by
 refine ⟨fun x hx=>?_,by rw [List.length_set];exact h.len,fun i p hp hn=>?_⟩
 ·rcases List.mem_or_eq_of_mem_set hx with h1 | h1
  ·exact h.fam x h1
  ·rw [h1];exact hb
 ·rw [List.getElem?_set];have hne:¬ j=i:=fun e=>hn (by simp [e]);rw [if_neg (by omega)];exact h.at_ i p hp fun hm=>hn (by simp [hm])
theorem mixES_sites {F:Nat}{f:List Stp→List Stp}{dn:List Nat}{T:BunS}:∀ (i:Nat) b key v,(mixES F f dn T)[i]?=some (b,key,v)→∀ s∈v.sites,s∈[F]:=fun i b key v hi s hs=>by
 rw [mixES_get] at hi;cases hT:T[i]? with
 | none=>rw [hT] at hi;simp at hi
 | some q =>
  rw [hT] at hi;simp only [Option.map_some,Option.some.injEq,Prod.mk.injEq] at hi;obtain ⟨rfl,rfl,rfl⟩:=hi;split at hs
  ·simp [V.sites] at hs
  ·simpa [V.sites] using hs
theorem mix_lent {H:Nat→List Blk}{bo:List Nat}{B:BunS}{seen:List Nat}{t:Int}{j c:Nat}{ks:Option (List Nat)}{v:V}(hj:ixI t (keysS B)=some j) (hv:Lent H bo v (.sl (stpRows (finS (lookS B t))) false)) :
  BLent H bo (.map ((mixES 900 finS seen B).set j (j,.int .i64 t,v)) c ks) (.map (mixES 900 finS (seen++[j]) B) c (some [900])):=by
 refine .mapL _ _ _ _ _ (by rw [List.length_set,mixES_len,mixES_len]) fun i b k v1 hi=>?_;have hsi:=mixES_sites i b k v1 hi;rw [←mixES_done hj,List.getElem?_set,mixES_len] at hi;have hjl:=ixI_lt hj;have hjl2:j<B.length:=by simpa [keysS] using hjl
 by_cases e:j=i
 ·subst e;rw [if_pos rfl,if_pos hjl2] at hi;cases hi;exact ⟨v,by rw [List.getElem?_set,if_pos rfl,mixES_len,if_pos hjl2],hv,hsi⟩
 ·rw [if_neg e] at hi;exact ⟨v1,by rw [List.getElem?_set,if_neg e];exact hi,.refl _,hsi⟩
theorem setZ_at {es:List (Nat×V×V)}{s:Int}{j:Nat}{v0 v:V}(h:mapAt (.int .i64 s) es=some (some (j,j,v0))):mapAt (.int .i64 s) (es.set j (j,.int .i64 s,v))=some (some (j,j,v)):=by
 suffices H:∀ (es:List (Nat×V×V)) (q b:Nat),mapAt (.int .i64 s) es=some (some (q,b,v0))→mapAt (.int .i64 s) (es.set q (b,.int .i64 s,v))=some (some (q,b,v)) from H es j j h
 intro es
 induction es with
 | nil=>intro q b h;simp [mapAt] at h
 | cons x es ih =>
  intro q b h;obtain ⟨b0,k0,w0⟩:=x;unfold mapAt at h;split at h
  ·cases h;simp [mapAt,eqKey]
  ·rename_i h1;split at h
   ·rename_i i b' v' h2;cases h;rw [List.set_cons_succ];unfold mapAt;rw [h1];simp only;rw [ih i b h2]
   ·cases h
   ·cases h
  ·cases h
theorem Ref.cut [Glob] {Γ:Ctx}{s s1 z:St}(h1:Ref Γ s s1) (h2:∃ s',s'=z∧Ref Γ s1 s'):∃ s',s'=z∧Ref Γ s s':=let ⟨s',e,h⟩:=h2;⟨s',e,h1.trans h⟩
theorem mixSet_sites {f:List Stp→List Stp}{dn:List Nat}{T:BunS}{j:Nat}{k v:V}{l:List Nat}(hl:900∈l) (hv:∀ s∈v.sites,s∈l):∀ (i:Nat) b key u,((mixES 900 f dn T).set j (j,k,v))[i]?=some (b,key,u)→∀ s∈u.sites,s∈l:=fun i b key u hi s hs=>by
 rw [List.getElem?_set] at hi;split at hi
 ·split at hi
  ·cases hi;exact hv s hs
  ·cases hi
 ·have:=mixES_sites i b key u hi s hs;simp at this;subst this;exact hl
set_option maxHeartbeats 16000000 in
theorem newWays_spec (l:List Table) (E:List (List Int)) (hs:∀ t∈l,SmallT t) (h11:∀ r∈E,Rel11 r) (hE:E.length≤1000000):Spec Tryz.prog 32 [.sl (tblRows l) false,.sl (relRows E) false] [] (.dmap (mkD (datES (waysM l (stpsE E))))) []:=by
 have hel:=relRows_len E;refine gEn env Tryz.func32 fun Γ hN hK hML=>?_;refine gGo ?_;intros;refine W.ref (Ref.reserve 900 2 4 rfl) ?_;refine W.leG (mp:=[(16,16),(900,900)]) (bo:=[]) (st':=⟨[(0,.sl (tblRows l) false),(5,.omap 16 0),(17,.sl (relRows E) false),(18,.int .i64 (relRows E).length),(19,.int .i64 0)],[(16,[.map [] 0 (some [])]),(900,ownFS [])],[16,900]⟩)
  (LeG.mq (.ci 16 (.fam 900 rfl (by show _=famL 2 _;unfold famL;rfl) (ownFS_fam _) .nil))) ?_
 refine W.ref (Ref.rekm 16 [900] rfl (fun i b k v hi=>by simp at hi) (fun q hq=>by simp at hq;subst hq;rfl)) ?_;refine W.loopG (fun m st=>∃ j:Nat,j≤E.length∧m=E.length-j∧st=⟨[(0,.sl (tblRows l) false),(5,.omap 16 0),(17,.sl (relRows E) false),(18,.int .i64 (relRows E).length),(19,.int .i64 (j:Nat))],[(16,[.map (ownES 900 (rawW l (stpsE (E.take j)))) (rawW l (stpsE (E.take j))).length (some [900])]),(900,ownFS (rawW l (stpsE (E.take j))))],[16,900]⟩)
  E.length _ ⟨0,by omega,by omega,rfl⟩ ⟨[(16,16),(900,900)],[],[],LeG.mq (.cons 16 rfl rfl (.refl _) (rfl) (.fam 900 rfl (rfl) (ownFS_fam _) .nil))⟩ ?_
 rintro m st ⟨j,hj,rfl,rfl⟩;refine gT (fun hb=>?_) fun hb=>?_
 ·have hlt:j<E.length:=by omega
  have hg:=relRows_get hlt;obtain ⟨r0,r1,r2,r3,r4,r5,r6,r7,r8,r9,r10,hr⟩:=rel11 (h11 _ (List.getElem_mem hlt));have hsn:rawW l (stpsE (E.take (j+1)))=addE l (rawW l (stpsE (E.take j))) (stpOf E[j]):=by
   rw [List.take_succ_eq_append_getElem hlt];unfold stpsE;rw [List.map_append];exact rawW_snoc _ _ _
  have hlen:=rawW_len l (stpsE (E.take j)) [];have hll:=fun t=>rawW_llen l t (stpsE (E.take j)) [];have hsl:(stpsE (E.take j)).length=j:=by unfold stpsE;rw [List.length_map,List.length_take];omega
  rw [hsl] at hlen hll;change (rawW l (stpsE (E.take j))).length≤_ at hlen;change ∀ t,(lookS (rawW l (stpsE (E.take j))) t).length≤0+j at hll;rw [hr] at hg hsn;change rawW l (stpsE (E.take (j+1)))=addE l _ ⟨r0,r1,r2,r3⟩ at hsn;generalize rawW l (stpsE (E.take j))=T at *;have sa:=getC_spec l r0 r1 hs;have sb:=getC_spec l r2 r3 hs;have hok:addE l T ⟨r0,r1,r2,r3⟩=if ((getC l r0 r1).isSome&&(getC l r2 r3).isSome&&!decide (r0=r2))=true then addZ (addZ T r0 ⟨r0,r1,r2,r3⟩) r2 ⟨r2,r3,r0,r1⟩ else T:=rfl
  rw [hok] at hsn;clear hok;generalize (getC l r0 r1).isSome=A at *;generalize (getC l r2 r3).isSome=B at *;generalize (getC l r0 r1).getD Column.zero=ca at *;generalize (getC l r2 r3).getD Column.zero=cb at *;cases A with
  | false =>
   rw [if_neg (by simp)] at hsn;refine gGo ?_;refine rowAt_of (by simpa using hg) ?_;(conv=>whnf);refine gGo ?_;(refine gPC (sa) ?_;conv=>whnf);refine gGo ?_;(refine gPC (sb) ?_;conv=>whnf);refine gGo ?_;refine ⟨_,_,?_,⟨j+1,by omega,rfl,rfl⟩,[(16,16),(900,900)],[],[],LeG.mq (.cons 16 rfl rfl (.refl _) (by rw [hsn];rfl) (.fam 900 rfl (by rw [hsn];rfl) (ownFS_fam _) .nil))⟩;omega
  | true =>
   cases B with
   | false =>
    rw [if_neg (by simp)] at hsn;refine gGo ?_;refine rowAt_of (by simpa using hg) ?_;(conv=>whnf);refine gGo ?_;(refine gPC (sa) ?_;conv=>whnf);refine gGo ?_;(refine gPC (sb) ?_;conv=>whnf);refine gGo ?_;refine ⟨_,_,?_,⟨j+1,by omega,rfl,rfl⟩,[(16,16),(900,900)],[],[],LeG.mq (.cons 16 rfl rfl (.refl _) (by rw [hsn];rfl) (.fam 900 rfl (by rw [hsn];rfl) (ownFS_fam _) .nil))⟩;omega
   | true =>
    by_cases he:r0=r2
    ·rw [if_neg (by simp [he])] at hsn;refine gGo ?_;refine rowAt_of (by simpa using hg) ?_;(conv=>whnf);refine gGo ?_;(refine gPC (sa) ?_;conv=>whnf);refine gGo ?_;(refine gPC (sb) ?_;conv=>whnf);refine gGo ?_;refine ⟨_,_,?_,⟨j+1,by omega,rfl,rfl⟩,[(16,16),(900,900)],[],[],LeG.mq (.cons 16 rfl rfl (.refl _) (by rw [hsn];rfl) (.fam 900 rfl (by rw [hsn];rfl) (ownFS_fam _) .nil))⟩;omega
    ·rw [if_pos (by simp [he])] at hsn;refine gA ?_;refine gC rfl ?_;refine gF ?_;(conv=>whnf);refine gA ?_;refine gB ?_;refine gA ?_;(refine gE env hN (by kernel_rfl) ?_;conv=>whnf);refine gGs ?_;refine rowAt_of (by simpa using hg) ?_;(conv=>whnf);refine gGs ?_;refine gA ?_;(refine gE env hN (by kernel_rfl) ?_;conv=>whnf);refine gGs ?_;(refine gPC (sa) ?_;conv=>whnf);refine gGs ?_;refine gA ?_;(refine gE env hN (by kernel_rfl) ?_;conv=>whnf);refine gGs ?_;(refine gPC (sb) ?_;conv=>whnf);refine gGs ?_;refine gA ?_;refine gA ?_;(refine gE env hN (by kernel_rfl) ?_;conv=>whnf);refine gGs ?_;refine gD rfl ?_;refine gF ?_;(conv=>whnf);refine W.leG (mp:=[(16,16),(900,900)]) (bo:=[7]) (st':=⟨[(0,.sl (tblRows l) false),(5,.omap 16 0),(17,.sl (relRows E) false),(18,.int .i64 (relRows E).length),(19,.int .i64 (j:Nat)),(7,.ro (intsV [r0,r1,r2,r3,r4,r5,r6,r7,r8,r9,r10]) 0)],[(16,[.map (ownES 900 (T)) (T).length (some [900])]),(900,ownFS (T))],[16,900]⟩)
      (LeG.mk' rfl rfl rfl (by repeat' (first | exact trivial | exact ⟨_,.refl _,rfl⟩ | exact ⟨_,.bp 7 0 11 (intsV [r0,r1,r2,r3,r4,r5,r6,r7,r8,r9,r10]) none rfl rfl (by simp [intsV]) (.inr rfl),rfl⟩ | apply And.intro)) (.cons 16 rfl rfl (.refl _) (rfl) (.fam 900 rfl (rfl) (ownFS_fam _) .nil)) rfl rfl (by rw [hK];rfl)) ?_
     obtain ⟨T1,hT1⟩:∃ T1:BunS,T1=addZ T r0 ⟨r0,r1,r2,r3⟩:=⟨_,rfl⟩
     have hT1l:=addZ_len T r0 (⟨r0,r1,r2,r3⟩:Stp);have hl0:=hll r0;have hl2:(lookS T1 r2).length≤j:=by
      rw [hT1,lookS_add,if_neg (Ne.symm he)];have:=hll r2;omega
     rw [←hT1] at hsn hT1l;refine W.cut (fun z=>z=⟨[(0,.sl (tblRows l) false),(5,.omap 16 0),(17,.sl (relRows E) false),(18,.int .i64 (relRows E).length),(19,.int .i64 (j:Nat)),(7,.ro (intsV [r0,r1,r2,r3,r4,r5,r6,r7,r8,r9,r10]) 0)],[(16,[.map (ownES 900 (T1)) (T1).length (some [900])]),(900,ownFS (T1))],[16,900]⟩) ?_ ?_
     ·have ha:=ownES_at 900 T r0;refine gE env hN (by kernel_rfl) ?_;(conv=>whnf);refine gGs ?_;refine zok_intro (by kernel_rfl) ?_;(conv=>whnf);refine ⟨_,ha,?_⟩;cases hix:ixI (r0) (keysS (T)) with
      | none =>
       rw [hix] at ha;have hgt:=fun ks=>ownES_gat (x:=(⟨r0,r1,r2,r3⟩:Stp)) (d:=67) (F:=900) (c1:=(T).length+1) (by decide) hix rfl ks;have hfn:=ownFS_new (x:=(⟨r0,r1,r2,r3⟩:Stp)) hix;have hfl:=ownFS_len (T);have hl1:(addZ (T) (r0) ((⟨r0,r1,r2,r3⟩:Stp))).length=(T).length+1:=by rw [addZ_none hix];simp
       (conv=>whnf);refine gGo ?_;refine ⟨rowsSz_cons rfl rowsSz_nil,fitsN (n:=1) (b:=32) (by decide) (by decide),Or.inl ?_⟩;(conv=>whnf);refine gGo ?_;refine ⟨_,ha,?_⟩;(conv=>whnf);refine gGs ?_;refine Ref.cut (Ref.gather 67 900 (b:=.rows 4 [Stp.row ((⟨r0,r1,r2,r3⟩:Stp))] (some [])) (L:=ownFS (T)) (hp:=[(16,[.map (ownES 900 (addZ (T) (r0) ((⟨r0,r1,r2,r3⟩:Stp)))) ((T).length+1) (some [900])])])
        (s':=⟨[(0,.sl (tblRows l) false),(5,.omap 16 0),(17,.sl (relRows E) false),(18,.int .i64 (relRows E).length),(19,.int .i64 (j:Nat)),(7,.ro (intsV [r0,r1,r2,r3,r4,r5,r6,r7,r8,r9,r10]) 0)],[(900,ownFS (T)++[.rows 4 [Stp.row ((⟨r0,r1,r2,r3⟩:Stp))] (some [])]),(16,[.map (ownES 900 (addZ (T) (r0) ((⟨r0,r1,r2,r3⟩:Stp)))) ((T).length+1) (some [900])])],_⟩)
        rfl rfl rfl rfl rfl (ownFS_fam _) rfl (by repeat' (first | exact trivial | apply And.intro | rfl))
        ⟨⟨rfl,rfl,_,_,rfl,rfl,(by rw [hfl];exact hgt _),rfl⟩,trivial⟩ rfl (by rw [hK];rfl)) ?_
       exact ⟨_,rfl,.le (mp:=[(16,16),(900,900)]) (bo:=[]) (LeG.mq (.cons 16 rfl rfl (.refl _) (by rw [hT1,hl1];rfl) (.fam 900 rfl (by rw [hT1,←hfn];rfl) (ownFS_fam _) .nil)))⟩
      | some q =>
       rw [hix] at ha;have hfk:=ownFS_get (lookS_at hix);have hse:=fun n (hn:n=(lookS (T) (r0)).length+1)=>ownES_set (F:=900) (x:=(⟨r0,r1,r2,r3⟩:Stp)) hix hn;have hsf:=ownFS_set (x:=(⟨r0,r1,r2,r3⟩:Stp)) hix;have hnl:=stpRows_len (lookS (T) (r0));have hl1:(addZ (T) (r0) ((⟨r0,r1,r2,r3⟩:Stp))).length=(T).length:=by rw [addZ_some hix];simp
       (conv=>whnf);refine gGo ?_;generalize hO:oslRows _ 900 (q+2)=O;have hO2:O=some (4,stpRows (lookS (T) (r0)),some []):=by rw [←hO];exact oslRows_of hfk
       subst hO2;clear hO;(conv=>whnf);refine ⟨⟨rowsSz_cons rfl rowsSz_nil,by omega⟩,fitsN (n:=(lookS (T) (r0)).length+1) (b:=32) (by omega) (by omega),.inl ⟨rfl,rfl,?_⟩⟩;(conv=>whnf);refine gGo ?_;refine ⟨_,ha,?_⟩;(conv=>whnf);refine gGs ?_;refine Ref.cut (Ref.rekm' 16 (es1:=ownES 900 (addZ (T) (r0) ((⟨r0,r1,r2,r3⟩:Stp)))) [900] rfl (by rw [←hse _ rfl];rfl) ownES_sites (fun q hq=>by simp at hq;subst hq;rfl)) ?_;exact ⟨_,rfl,.le (mp:=[(16,16),(900,900)]) (bo:=[]) (LeG.mq (.cons 16 rfl rfl (.refl _) (by rw [hT1,hl1];rfl) (.fam 900 rfl (by rw [hT1,←hsf];unfold lisS;rw [show stpRows (lookS T r0++[(⟨r0,r1,r2,r3⟩:Stp)])=stpRows (lookS T r0)++[Stp.row ⟨r0,r1,r2,r3⟩] by simp [stpRows]];rfl) (ownFS_fam _) .nil)))⟩
     ·rintro z rfl;have ha:=ownES_at 900 T1 r2;refine gE env hN (by kernel_rfl) ?_;(conv=>whnf);refine gGs ?_;refine zok_intro (by kernel_rfl) ?_;(conv=>whnf);refine ⟨_,ha,?_⟩;cases hix:ixI (r2) (keysS (T1)) with
      | none =>
       rw [hix] at ha;have hgt:=fun ks=>ownES_gat (x:=(⟨r2,r3,r0,r1⟩:Stp)) (d:=83) (F:=900) (c1:=(T1).length+1) (by decide) hix rfl ks;have hfn:=ownFS_new (x:=(⟨r2,r3,r0,r1⟩:Stp)) hix;have hfl:=ownFS_len (T1);have hl1:(addZ (T1) (r2) ((⟨r2,r3,r0,r1⟩:Stp))).length=(T1).length+1:=by rw [addZ_none hix];simp
       (conv=>whnf);refine gGo ?_;refine ⟨rowsSz_cons rfl rowsSz_nil,fitsN (n:=1) (b:=32) (by decide) (by decide),Or.inl ?_⟩;(conv=>whnf);refine gGo ?_;refine ⟨_,ha,?_⟩;(conv=>whnf);refine gGs ?_;refine W.ref (Ref.gather 83 900 (b:=.rows 4 [Stp.row ((⟨r2,r3,r0,r1⟩:Stp))] (some [])) (L:=ownFS (T1)) (hp:=[(16,[.map (ownES 900 (addZ (T1) (r2) ((⟨r2,r3,r0,r1⟩:Stp)))) ((T1).length+1) (some [900])])])
        (s':=⟨[(0,.sl (tblRows l) false),(5,.omap 16 0),(17,.sl (relRows E) false),(18,.int .i64 (relRows E).length),(19,.int .i64 (j:Nat)),(7,.ro (intsV [r0,r1,r2,r3,r4,r5,r6,r7,r8,r9,r10]) 0)],[(900,ownFS (T1)++[.rows 4 [Stp.row ((⟨r2,r3,r0,r1⟩:Stp))] (some [])]),(16,[.map (ownES 900 (addZ (T1) (r2) ((⟨r2,r3,r0,r1⟩:Stp)))) ((T1).length+1) (some [900])])],_⟩)
        rfl rfl rfl rfl rfl (ownFS_fam _) rfl (by repeat' (first | exact trivial | apply And.intro | rfl))
        ⟨⟨rfl,rfl,_,_,rfl,rfl,(by rw [hfl];exact hgt _),rfl⟩,trivial⟩ rfl (by rw [hK];rfl)) ?_
       ((refine gGo ?_;intros);exact ⟨E.length-(j+1),_,by omega,⟨j+1,by omega,rfl,rfl⟩,[(16,16),(900,900)],[],[],LeG.mq (.cons 16 rfl rfl (.refl _) (by rw [hsn,hl1];rfl) (.fam 900 rfl (by rw [hsn,←hfn];rfl) (ownFS_fam _) .nil))⟩)
      | some q =>
       rw [hix] at ha;have hfk:=ownFS_get (lookS_at hix);have hse:=fun n (hn:n=(lookS (T1) (r2)).length+1)=>ownES_set (F:=900) (x:=(⟨r2,r3,r0,r1⟩:Stp)) hix hn;have hsf:=ownFS_set (x:=(⟨r2,r3,r0,r1⟩:Stp)) hix;have hnl:=stpRows_len (lookS (T1) (r2));have hl1:(addZ (T1) (r2) ((⟨r2,r3,r0,r1⟩:Stp))).length=(T1).length:=by rw [addZ_some hix];simp
       (conv=>whnf);refine gGo ?_;generalize hO:oslRows _ 900 (q+2)=O;have hO2:O=some (4,stpRows (lookS (T1) (r2)),some []):=by rw [←hO];exact oslRows_of hfk
       subst hO2;clear hO;(conv=>whnf);refine ⟨⟨rowsSz_cons rfl rowsSz_nil,by omega⟩,fitsN (n:=(lookS (T1) (r2)).length+1) (b:=32) (by omega) (by omega),.inl ⟨rfl,rfl,?_⟩⟩;(conv=>whnf);refine gGo ?_;refine ⟨_,ha,?_⟩;(conv=>whnf);refine gGs ?_;refine W.ref (Ref.rekm' 16 (es1:=ownES 900 (addZ (T1) (r2) ((⟨r2,r3,r0,r1⟩:Stp)))) [900] rfl (by rw [←hse _ rfl];rfl) ownES_sites (fun q hq=>by simp at hq;subst hq;rfl)) ?_
       ((refine gGo ?_;intros);exact ⟨E.length-(j+1),_,by omega,⟨j+1,by omega,rfl,rfl⟩,[(16,16),(900,900)],[],[],LeG.mq (.cons 16 rfl rfl (.refl _) (by rw [hsn,hl1];rfl) (.fam 900 rfl (by rw [hsn,←hsf];unfold lisS;rw [show stpRows (lookS T1 r2++[(⟨r2,r3,r0,r1⟩:Stp)])=stpRows (lookS T1 r2)++[Stp.row ⟨r2,r3,r0,r1⟩] by simp [stpRows]];rfl) (ownFS_fam _) .nil))⟩)
 ·have hje:j=E.length:=by omega
  rw [hje,List.take_length];have hnd:=rawW_nd l (stpsE E) [] (by simp [keysS]);have hll:=fun t=>rawW_llen l t (stpsE E) [];have hsl:(stpsE E).length=E.length:=by unfold stpsE;rw [List.length_map]
  rw [hsl] at hll;change (keysS (rawW l (stpsE E))).Nodup at hnd;change ∀ t,(lookS (rawW l (stpsE E)) t).length≤0+E.length at hll;have hways:waysM l (stpsE E)=(rawW l (stpsE E)).map fun p=>(p.1,finS p.2):=rfl;rw [hways];clear hways;generalize rawW l (stpsE E)=B at *;refine gGo ?_;refine W.loopG (fun n st=>∃ (seen:List Nat) (L:List Blk),Seen B.length seen∧FamOK B seen L∧n=B.length-seen.length∧st=⟨[(5,.omap 16 0),(86,.bp 86 0)],[(86,[.iter 16 0 B.length seen]),(16,[.map (mixES 900 finS seen B) B.length (some [900])]),(900,L)],[16,900,86]⟩)
   B.length _ ⟨[],ownFS B,Seen.nil _,FamOK.start B,by simp,rfl⟩ ⟨[(86,86),(16,16),(900,900)],[],[],LeG.mq (.ci 86 (.cons 16 rfl rfl (.refl _) (by rw [mixES_nil];rfl) (.fam 900 rfl rfl (ownFS_fam _) .nil)))⟩ ?_
  rintro n st ⟨seen,L,hse,hL,rfl,rfl⟩;refine gA ?_;have hlL:=hL.len;have hsl2:=hse.len;refine W.nextMap env hN rfl rfl rfl (by kernel_rfl) rfl rfl rfl (fun hD=>?_) (fun j0 j kk v hj hb=>?_)
  ·have hall:∀ i,i<B.length→i∈seen:=fun i hi=>hD i i _ _ (by rw [mixES_get,List.getElem?_eq_getElem hi];rfl);have hes:=mixES_all 900 finS seen B hall;rw [hes];(conv=>whnf);refine gGo ?_;refine W.leG (mp:=[]) (bo:=[16]) (st':=⟨[(4,.dmap (mkD (datES (B.map fun p=>(p.1,finS p.2)))))],[],[]⟩)
    (LeG.mk' rfl rfl rfl ⟨⟨_,.omapF 16 0 _ _ _ rfl rfl (datES_pure _ _),rfl⟩,trivial⟩ .nil rfl rfl (by rw [hK];rfl)) ?_
   (refine gM ?_;conv=>whnf);exact ret0 rfl rfl rfl
  ·rw [mixES_get] at hj;obtain ⟨p,hp⟩:∃ p,B[j0]?=some p:=by
    cases hq:B[j0]? with
    | none=>rw [hq] at hj;cases hj
    | some p=>exact ⟨p,rfl⟩
   rw [hp] at hj;simp only [Option.map_some,Option.some.injEq,Prod.mk.injEq] at hj;obtain ⟨h1,h2,h3⟩:=hj;subst h1;rw [if_neg hb] at h3;subst h2;subst h3;obtain ⟨t,Ls⟩:=p;have hix:=ixI_nodup hnd (j:=j0) (s:=t) (by unfold keysS;rw [List.getElem?_map,hp];rfl);have hLs:Ls=lookS B t:=by
    have:=lookS_at hix;rw [hp] at this;cases this;rfl
   have hjl:j0<B.length:=(List.getElem?_eq_some_iff.1 hp).1;have hget:=hL.at_ j0 _ hp hb;have hat:=mixES_get 900 finS seen B j0;rw [hp] at hat;simp only [Option.map_some,if_neg hb] at hat;have hma:=mixES_at 900 finS seen B t hix;rw [if_neg hb,←hLs] at hma;have hlt:=hll t;rw [←hLs] at hlt;have hnl:=stpRows_len Ls;have spS:=Spec.fam (args':=[.osl 900 (j0+2) 0 (stpRows Ls).length (stpRows Ls).length,.fn 73 []]) (sortSteps_spec Ls (by omega)) 900 (j0+2) L hL.fam hget rfl rfl ⟨.inl ⟨_,_,_,rfl,rfl⟩,.inr ⟨rfl,rfl⟩,trivial⟩;rw [hnl] at spS;obtain ⟨L1,hL1⟩:∃ L1,L1=L.set (j0+2) (.rows 4 (stpRows (sortBy stepC Ls)) (some [])):=⟨_,rfl⟩
   have hdn:FamOK B (seen++[j0]) L1:=by rw [hL1];exact hL.done j0 rfl
   have hgS:L1[j0+2]?=some (lisS (sortBy stepC Ls)):=by rw [hL1,List.getElem?_set,if_pos rfl,if_pos (by omega)];rfl
   rw [←hL1] at spS;clear hL1;have hse':=hse.snoc hjl hb;(conv=>whnf);refine gGo ?_;refine ⟨seen,j0,j0,.int .i64 _,_,rfl,hat,rfl,?_⟩;(conv=>whnf);refine gGo ?_;(refine gCF (spS) (fun p hp b hb=>by simp at hp;subst hp;exact famWithin (hL.fam b hb)) (fun p hp e=>by simp at hp;subst hp;simp at e;rw [e] at hlL;simp at hlL) ?_;conv=>whnf);refine gGo ?_;refine ⟨_,hma,?_⟩;(conv=>whnf);refine gGo ?_;have hsS:=sortBy_len stepC Ls;have hfin:finS (lookS B t)=dedK (sortBy stepC Ls) Ls.length:=by rw [←hLs];unfold finS;rw [hsS]
   have hmn:=setZ_at (v:=.nils) hma;have hmo:=fun n=>setZ_at (v:=.osl 121 0 0 n n) hma;generalize sortBy stepC Ls=S at *;have hSn:=stpRows_len S;generalize hO:oslRows _ 900 (j0+2)=O;have hO2:O=some (4,stpRows S,some []):=by rw [←hO];exact oslRows_of hgS
   subst hO2;clear hO;(conv=>whnf);refine ⟨by omega,fun hlenZ=>?_⟩;(conv=>whnf);refine gGo ?_;refine W.loopG (fun m st=>∃ i:Nat,i≤Ls.length∧m=Ls.length-i∧((i=0∧st=⟨[(5,.omap 16 0),(12,.int .i64 t),(13,.osl 900 (j0+2) 0 Ls.length Ls.length),(86,.bp 86 0),(96,.osl 900 (j0+2) 0 Ls.length Ls.length),(97,.int .i64 Ls.length),(98,.int .i64 (0:Nat))],[(86,[.iter 16 0 B.length (seen++[j0])]),(16,[.map ((mixES 900 finS seen B).set j0 (j0,.int .i64 t,.nils)) B.length (some [900])]),(900,L1)],[16,900,86]⟩)∨(0<i∧st=⟨[(5,.omap 16 0),(12,.int .i64 t),(13,.osl 900 (j0+2) 0 Ls.length Ls.length),(86,.bp 86 0),(96,.osl 900 (j0+2) 0 Ls.length Ls.length),(97,.int .i64 Ls.length),(98,.int .i64 (i:Nat))],[(86,[.iter 16 0 B.length (seen++[j0])]),(16,[.map ((mixES 900 finS seen B).set j0 (j0,.int .i64 t,.osl 121 0 0 (stpRows (dedK S i)).length (stpRows (dedK S i)).length)) B.length (some [900,121])]),(900,L1),(121,[.rows 4 (stpRows (dedK S i)) (some [])])],[16,900,86,121]⟩))) Ls.length _ ⟨0,by omega,by omega,.inl ⟨rfl,rfl⟩⟩
    ⟨[(86,86),(16,16),(900,900)],[],[],LeG.mq (.ci 86 (.ci 16 (.fam 900 rfl rfl hdn.fam .nil)))⟩ ?_
   rintro m st ⟨i,hi,rfl,(⟨rfl,rfl⟩ | ⟨hi0,rfl⟩)⟩
   ·refine gT (fun hb=>?_) fun hb=>?_
    ·have hlt0:0<S.length:=by omega
     have hg0:=stpRows_get hlt0;have hd1:dedK S 1=[S[0]]:=by
      show dedK S 0++(match S[0]? with | none=>[] | some x=>if 0=0∨S[0-1]?≠some x then [x] else [])=_;rw [List.getElem?_eq_getElem hlt0];simp [dedK]
     generalize S[0]=x at *;have hr1:stpRows (dedK S 1)=[x.row]:=by rw [hd1];rfl
     refine gGo ?_;generalize hO:(lookH _ 900)[j0+2]?=O;have hO2:O=some (lisS S):=by rw [←hO];exact hgS
     subst hO2;clear hO;(conv=>whnf);refine ⟨by omega,⟨by omega,by omega⟩,?_⟩;(conv=>whnf);refine gGo ?_;generalize hO:(lookH _ 900)[j0+2]?=O;have hO2:O=some (lisS S):=by rw [←hO];exact hgS
     subst hO2;clear hO;(conv=>whnf);refine gN (by omega) ?_;refine g ?_;refine zok_intro (by kernel_rfl) ?_;(conv=>whnf);refine ⟨_,hmn,?_⟩;(conv=>whnf);refine gGo ?_;refine ⟨rowsSz_cons rfl rowsSz_nil,fitsN (n:=1) (b:=32) (by decide) (by decide),Or.inl ?_⟩;(conv=>whnf);refine gGo ?_;refine ⟨_,hmn,?_⟩;(conv=>whnf);refine gGs ?_;refine W.ref (Ref.rekm' 16 (es1:=(mixES 900 finS seen B).set j0 (j0,.int .i64 t,.osl 121 0 0 1 1)) [900,121] rfl (by rw [List.set_set];rfl) (mixSet_sites (by simp) (by simp [V.sites])) (fun q hq=>by simp at hq;rcases hq with rfl | rfl<;>rfl)) ?_;refine gGo ?_;refine ⟨Ls.length-(0+1),_,by omega,⟨0+1,by omega,rfl,.inr ⟨by omega,rfl⟩⟩,[(86,86),(16,16),(900,900),(121,121)],[],[],LeG.mq (.ci 86 (.cons 16 rfl rfl (.refl _) (by rw [show 0+1=1 from rfl,hr1];rfl) (.fam 900 rfl rfl hdn.fam (.cons 121 rfl rfl (.refl _) (by rw [show 0+1=1 from rfl,hr1];rfl) .nil))))⟩
    ·have hL0:Ls.length=0:=by omega
     have hfe:finS (lookS B t)=[]:=by rw [hfin,hL0];rfl
     refine gGo ?_;refine ⟨B.length-(seen++[j0]).length,_,by rw [List.length_append,List.length_singleton];have:=hse'.len;rw [List.length_append,List.length_singleton] at this;omega,⟨seen++[j0],L1,hse',hdn,rfl,rfl⟩,[(86,86),(16,16),(900,900)],[],[],LeG.mq (.ci 86 (.cons 16 (b1:=.map (mixES 900 finS (seen++[j0]) B) B.length (some [900])) rfl rfl (mix_lent hix (by rw [hfe];exact .norm _)) rfl (.fam 900 rfl rfl hdn.fam .nil)))⟩
   ·refine gT (fun hb=>?_) fun hb=>?_
    ·have hlti:i<S.length:=by omega
     have hlti1:i-1<S.length:=by omega
     have hgi:=stpRows_get hlti;have hgi1:=stpRows_get hlti1;have hdl:=dedK_len S i;have hdn2:=stpRows_len (dedK S i);have hmi:=hmo (stpRows (dedK S i)).length;have hdi:dedK S (i+1)=dedK S i++if S[i-1]≠S[i] then [S[i]] else []:=by
      show dedK S i++(match S[i]? with | none=>[] | some x=>if i=0∨S[i-1]?≠some x then [x] else [])=_;rw [List.getElem?_eq_getElem hlti,List.getElem?_eq_getElem hlti1];simp [show ¬ i=0 by omega]
     generalize S[i]=x at *;generalize S[i-1]=y at *;refine gGo ?_;generalize hO:(lookH _ 900)[j0+2]?=O;have hO2:O=some (lisS S):=by rw [←hO];exact hgS
     subst hO2;clear hO;(conv=>whnf);refine ⟨by omega,⟨by omega,by omega⟩,?_⟩;(conv=>whnf);refine gGo ?_;generalize hO:(lookH _ 900)[j0+2]?=O;have hO2:O=some (lisS S):=by rw [←hO];exact hgS
     subst hO2;clear hO;(conv=>whnf);refine gN (by omega) ?_;refine g ?_;generalize hO:(lookH _ 900)[j0+2]?=O;have hO2:O=some (lisS S):=by rw [←hO];exact hgS
     subst hO2;clear hO;(conv=>whnf);refine ⟨by omega,⟨by omega,by omega⟩,?_⟩;(conv=>whnf);refine gGo ?_;generalize hO:(lookH _ 900)[j0+2]?=O;have hO2:O=some (lisS S):=by rw [←hO];exact hgS
     subst hO2;clear hO;(conv=>whnf);refine gN (by omega) ?_;refine rowAt_of (r:=y.row) (by rw [show (0+(((i:Nat):Int)-1).toNat)=i-1 by omega];exact hgi1) ?_;(conv=>whnf);refine gGo ?_;refine ⟨_,_,_,steps_ne rfl x y rfl rfl (by kernel_rfl),?_⟩;by_cases he:x=y
     ·rw [decide_eq_true he];rw [if_neg (by simp [he]),List.append_nil] at hdi;(conv=>whnf);refine gGo ?_;refine ⟨Ls.length-(i+1),_,by omega,⟨i+1,by omega,rfl,.inr ⟨by omega,rfl⟩⟩,[(86,86),(16,16),(900,900),(121,121)],[],[],LeG.mq (.ci 86 (.cons 16 rfl rfl (.refl _) (by rw [hdi];rfl) (.fam 900 rfl rfl hdn.fam (.cons 121 rfl rfl (.refl _) (by rw [hdi];rfl) .nil))))⟩
     ·rw [decide_eq_false he];rw [if_pos (Ne.symm he)] at hdi;have hr1:stpRows (dedK S (i+1))=stpRows (dedK S i)++[x.row]:=by rw [hdi];simp [stpRows]
      have hr2:(stpRows (dedK S (i+1))).length=(stpRows (dedK S i)).length+1:=by rw [hr1];simp
      (conv=>whnf);refine gGo ?_;refine zok_intro (by kernel_rfl) ?_;(conv=>whnf);refine ⟨_,hmi,?_⟩;(conv=>whnf);refine gGo ?_;refine ⟨⟨rowsSz_cons rfl rowsSz_nil,rfl⟩,fitsN (n:=(stpRows (dedK S i)).length+1) (b:=32) (by omega) (by omega),.inl ⟨rfl,rfl,?_⟩⟩;(conv=>whnf);refine gGo ?_;refine ⟨_,hmi,?_⟩;(conv=>whnf);refine gGs ?_;refine W.ref (Ref.rekm' 16 (es1:=(mixES 900 finS seen B).set j0 (j0,.int .i64 t,.osl 121 0 0 ((stpRows (dedK S i)).length+1) ((stpRows (dedK S i)).length+1))) [900,121] rfl (by rw [List.set_set];rfl) (mixSet_sites (by simp) (by simp [V.sites])) (fun q hq=>by simp at hq;rcases hq with rfl | rfl<;>rfl)) ?_;refine gGo ?_;refine ⟨Ls.length-(i+1),_,by omega,⟨i+1,by omega,rfl,.inr ⟨by omega,rfl⟩⟩,[(86,86),(16,16),(900,900),(121,121)],[],[],LeG.mq (.ci 86 (.cons 16 rfl rfl (.refl _) (by rw [hr2];rfl) (.fam 900 rfl rfl hdn.fam (.cons 121 rfl rfl (.refl _) (by rw [hr1];rfl) .nil))))⟩
    ·have hie:i=Ls.length:=by omega
     have hfe:finS (lookS B t)=dedK S i:=by rw [hfin,hie]
     refine gGo ?_;refine ⟨B.length-(seen++[j0]).length,_,by rw [List.length_append,List.length_singleton];have:=hse'.len;rw [List.length_append,List.length_singleton] at this;omega,⟨seen++[j0],L1,hse',hdn,rfl,rfl⟩,[(86,86),(16,16),(900,900)],[121],[],LeG.mq (.ci 86 (.cons 16 (b1:=.map (mixES 900 finS (seen++[j0]) B) B.length (some [900])) rfl rfl (mix_lent hix (by rw [hfe];exact Lent.whole rfl rfl rfl rfl (.inl rfl))) rfl (.fam 900 rfl rfl hdn.fam .nil)))⟩
def distE (D:Dist):List (Nat×V×V):=tabI 0 (D.map fun p=>(p.1,.int .i64 ((p.2:Nat):Int)))
theorem distE_keys (D:Dist):keysS (D.map fun p=>(p.1,V.int .i64 ((p.2:Nat):Int)))=keysS D:=by simp [keysS]
theorem distE_at (D:Dist) (s:Int):mapAt (.int .i64 s) (distE D)=some ((ixI s (keysS D)).map fun j=>(j,j,.int .i64 (((D.getD j (0,0)).2:Nat):Int))):=by
 unfold distE;rw [tabI_at,distE_keys];cases h:ixI s (keysS D) with
 | none=>rfl
 | some j =>
  obtain ⟨v,hv⟩:=ixI_getS h;simp [List.getD_eq_getElem?_getD,hv]
theorem distE_none {D:Dist}{s:Int}(h:s∉keysS D):mapAt (.int .i64 s) (distE D)=some none:=by rw [distE_at,ixI_none.2 h];rfl
theorem distE_some {D:Dist}{s:Int}{m:Nat}(h:lookD D s=some m):∃ j,mapAt (.int .i64 s) (distE D)=some (some (j,j,.int .i64 (m:Int))):=by
 unfold lookD at h;rw [Option.map_eq_some_iff] at h;obtain ⟨j,hj,rfl⟩:=h;exact ⟨j,by rw [distE_at,hj];rfl⟩
theorem distE_snoc (D:Dist) (t:Int) (m:Nat):distE (D++[(t,m)])=distE D++[(D.length,.int .i64 t,.int .i64 (m:Int))]:=by
 unfold distE;rw [List.map_append];have:=tabI_snoc t (.int .i64 (m:Int)) (D.map fun p=>(p.1,V.int .i64 ((p.2:Nat):Int))) 0;rw [List.length_map,Nat.zero_add] at this;exact this
theorem distE_pure (D:Dist) (ks:Option (List Nat)):pureEs (distE D) ks:=.inr fun p hp=>by
 obtain ⟨j,hj⟩:=List.getElem?_of_mem hp;unfold distE at hj;rw [tabI_get,List.getElem?_map] at hj;cases hT:D[j]? with
 | none=>rw [hT] at hj;simp at hj
 | some q=>rw [hT] at hj;simp at hj;rw [←hj];simp [V.sites]
theorem lookD_nd {D:Dist}(h:(keysS D).Nodup) {i:Nat}{q:Int×Nat}(hq:D[i]?=some q):lookD D q.1=some q.2:=by
 have h1:=ixI_nodup h (j:=i) (s:=q.1) (by unfold keysS;rw [List.getElem?_map,hq];rfl);unfold lookD;rw [h1];simp [List.getD_eq_getElem?_getD,hq]
def Near (D:Dist):Prop:=∀ p∈D,p.2≤D.length
theorem Near.farS {D:Dist}{n:Nat}{s:Stp}(h:Near D) (hn:n≤D.length):Near (farS n D s):=by
 unfold Go.Sx.Sp.farS;split
 ·exact h
 ·intro p hp;rw [List.length_append,List.length_singleton];rcases List.mem_append.1 hp with hp | hp
  ·have:=h p hp;omega
  ·simp only [List.mem_singleton] at hp;subst hp;simp;omega
set_option maxHeartbeats 16000000 in
theorem far_spec (l:List Table) (E:List Stp) (goal:Int) (hE:E.length≤1000000):Spec Tryz.prog 74 [.dmap (mkD (datES (waysM l E))),.int .i64 goal] [] (.dmap (mkD (distE (farM l E goal)))) []:=by
 have hfar:farM l E goal=farR (wayW l E) (2*E.length+1) 0 [(goal,0)]:=rfl;have hU:∀ t,∀ s∈wayW l E t,s.tt∈allT E goal:=fun t s hs=>allT_way hs;have hUl:(allT E goal).length=2*E.length+1:=by simp [allT];omega
 have hlook:=fun t=>datES_look (waysM l E) t;have hnone:∀ t,ixI t (keysS (waysM l E))=none→wayW l E t=[]:=fun t h=>lookS_none h;have hwl:=fun t=>wayW_len l E t;rw [hfar];clear hfar;have hlk:∀ t,lookS (waysM l E) t=wayW l E t:=fun t=>rfl;simp only [hlk] at hlook;generalize waysM l E=M at *;generalize wayW l E=Wy at *;refine gEn env Tryz.func74 fun Γ hN hK hML=>?_;refine gGo ?_;refine ⟨_,rfl,?_⟩;(conv=>whnf);refine gGl ?_;refine Or.inl ?_;(conv=>whnf);refine gGo ?_;refine W.loopG (fun m st=>∃ (i:Nat) (D:Dist),FarI Wy (allT E goal) goal i D∧Near D∧farR Wy (2*E.length+1) 0 [(goal,0)]=farR Wy (2*E.length+1-i) i D∧m=2*E.length+1-i∧st=⟨[(0,.dmap (mkD (datES M))),(5,.omap 12 0),(6,.osl 16 0 0 (D).length (D).length),(7,.int .i64 (i:Nat))],[(12,[.map (distE (D)) (D).length (some [])]),(16,[.rows 1 (intRows .i64 (keysS (D))) (some [])])],[12,16]⟩)
  (2*E.length+1) _ ⟨0,[(goal,0)],FarI.start Wy (by simp [allT]),(fun p hp=>by simp at hp;subst hp;simp),rfl,by omega,rfl⟩ ⟨[(12,12),(16,16)],[],[],LeG.mq (.ci 12 (.cons 16 rfl rfl (.pure _ _ _ (fun r hr v hv=>by simp at hr;subst hr;simp at hv;subst hv;rfl)) rfl .nil))⟩ ?_
 rintro m st ⟨i,D,hI,hN2,hgo,rfl,rfl⟩;have hDl:=hI.len;rw [hUl] at hDl;have hkl:(intRows .i64 (keysS D)).length=D.length:=by rw [intRows_len];simp [keysS]
 have hile:=hI.le;refine gT (fun hb=>?_) fun hb=>?_
 ·have hil:i<D.length:=by omega
  obtain ⟨k,hk⟩:∃ k,2*E.length+1-i=k+1:=⟨2*E.length-i,by omega⟩
  have hst:farR Wy (k+1) i D=farR Wy k (i+1) (farT Wy D i):=by rw [farR,if_pos hil]
  have hk2:2*E.length+1-(i+1)=k:=by omega
  rw [hk,hst] at hgo;have hq:D[i]?=some D[i]:=List.getElem?_eq_getElem hil;have hft:farT Wy D i=(Wy D[i].1).foldl (farS D[i].2) D:=by unfold farT;rw [hq]
  rw [hft] at hgo;have hJ:=hI.open_ hq;have hqn:=hN2 _ (List.getElem_mem hil);generalize D[i]=q at *;have hgq:(intRows .i64 (keysS D))[i]?=some [.int .i64 q.1]:=by
   unfold intRows keysS;rw [List.getElem?_map,List.getElem?_map,hq];rfl
  obtain ⟨r,hr1,hr2⟩:=hlook q.1;have hwq:=hwl q.1;have hUq:=hU q.1;have hys:ixI q.1 (keysS M)=none→Wy q.1=[]:=hnone q.1;have hclose:∀ D',FarJ Wy (allT E goal) goal i q (Wy q.1) D D'→FarI Wy (allT E goal) goal (i+1) D':=fun D' h=>h.close;generalize Wy q.1=ys at *;have hyl:=stpRows_len ys;(refine g ?_;intros);refine zok_intro (by kernel_rfl) ?_;(conv=>whnf);refine ⟨_,rfl,_,hr1,?_⟩;rcases hr2 with ⟨hix,rfl⟩ | ⟨jj,hix,rfl⟩
  ·have hy0:=hys hix;(conv=>whnf);refine gGo ?_;refine W.leG (mp:=[(12,12),(16,16)]) (bo:=[]) (st':=⟨[(0,.dmap (mkD (datES M))),(5,.omap 12 0),(6,.osl 16 0 0 (D).length (D).length),(7,.int .i64 (i:Nat)),(28,.sl (stpRows ys) false),(29,.int .i64 (stpRows ys).length),(30,.int .i64 (0:Nat))],[(12,[.map (distE (D)) (D).length (some [])]),(16,[.rows 1 (intRows .i64 (keysS (D))) (some [])])],[12,16]⟩)
    (LeG.mk' rfl rfl rfl (by rw [hy0];exact ⟨⟨_,.refl _,rfl⟩,⟨_,.refl _,rfl⟩,⟨_,.refl _,rfl⟩,⟨_,.refl _,rfl⟩,⟨_,.norm _,rfl⟩,⟨_,.refl _,rfl⟩,⟨_,.refl _,rfl⟩,trivial⟩) (.ci 12 (.ci 16 .nil)) rfl rfl (by rw [hK];rfl)) ?_
   refine W.loopG (fun m st=>∃ (j:Nat) (D':Dist),j≤ys.length∧FarJ Wy (allT E goal) goal i q (ys.take j) D D'∧D'=(ys.take j).foldl (farS q.2) D∧Near D'∧q.2≤D'.length∧m=ys.length-j∧st=⟨[(0,.dmap (mkD (datES M))),(5,.omap 12 0),(6,.osl 16 0 0 (D').length (D').length),(7,.int .i64 (i:Nat)),(28,.sl (stpRows ys) false),(29,.int .i64 (stpRows ys).length),(30,.int .i64 (j:Nat))],[(12,[.map (distE (D')) (D').length (some [])]),(16,[.rows 1 (intRows .i64 (keysS (D'))) (some [])])],[12,16]⟩)
    ys.length _ ⟨0,D,by omega,hJ,rfl,hN2,hqn,by omega,rfl⟩ gX ?_
   rintro m st ⟨j,D',hj,hJ',hD',hN',hq',rfl,rfl⟩;have hDl':=hJ'.len;rw [hUl] at hDl';have hkl':(intRows .i64 (keysS D')).length=D'.length:=by rw [intRows_len];simp [keysS]
   have hil':=(List.getElem?_eq_some_iff.1 hJ'.at_).1;refine gT (fun hb=>?_) fun hb=>?_
   ·have hlt:j<ys.length:=by omega
    have hg:=stpRows_get hlt;have htk:=List.take_succ_eq_append_getElem hlt;have hUs:=hUq _ (List.getElem_mem hlt);generalize ys[j]=s at *;have hJ2:=hJ'.step hUs;have hfo:(ys.take (j+1)).foldl (farS q.2) D=farS q.2 D' s:=by rw [htk,List.foldl_append,←hD'];rfl
    have hN3:Near (farS q.2 D' s):=hN'.farS hq';rw [←htk] at hJ2;refine g ?_;refine zok_intro (by kernel_rfl) ?_;(conv=>whnf);by_cases hm:s.tt∈keysS D'
    ·obtain ⟨v,hv⟩:=lookD_some hm;obtain ⟨jv,hjv⟩:=distE_some hv;have hfs:farS q.2 D' s=D':=by unfold farS;rw [if_pos hm]
     rw [hfs] at hJ2 hfo hN3;refine ⟨_,hjv,?_⟩;(conv=>whnf);refine gGo ?_;exact ⟨ys.length-(j+1),_,by omega,⟨j+1,D',by omega,hJ2,hfo.symm,hN3,hq',rfl,rfl⟩,gX⟩
    ·have hdn:=distE_none hm;have hfs:farS q.2 D' s=D'++[(s.tt,q.2+1)]:=by unfold farS;rw [if_neg hm]
     rw [hfs] at hJ2 hfo hN3;have hgq':(intRows .i64 (keysS D'))[i]?=some [.int .i64 q.1]:=by
      unfold intRows keysS;rw [List.getElem?_map,List.getElem?_map,hJ'.at_];rfl
     obtain ⟨jv,hjv⟩:=distE_some (lookD_nd hJ'.nd hJ'.at_);have hsn:=distE_snoc D' s.tt (q.2+1);have hks:intRows .i64 (keysS (D'++[(s.tt,q.2+1)]))=intRows .i64 (keysS D')++[[.int .i64 s.tt]]:=by simp [intRows,keysS]
     have hlen:(D'++[(s.tt,q.2+1)]).length=D'.length+1:=by simp
     refine ⟨_,hdn,?_⟩;(conv=>whnf);refine g ?_;refine zok_intro (by kernel_rfl) ?_;(conv=>whnf);refine ⟨_,hjv,?_⟩;(conv=>whnf);refine gGo ?_;refine ⟨_,hdn,?_⟩;(conv=>whnf);refine gGo ?_;refine ⟨⟨rowsSz_cons rfl rowsSz_nil,hkl'.symm⟩,fitsN (n:=D'.length+1) (b:=8) (by omega) (by omega),.inl ⟨rfl,rfl,?_⟩⟩;(conv=>whnf);refine gGo ?_;exact ⟨ys.length-(j+1),_,by omega,⟨j+1,D'++[(s.tt,q.2+1)],by omega,hJ2,hfo.symm,hN3,by omega,rfl,rfl⟩,[(12,12),(16,16)],[],[],LeG.mk' rfl rfl rfl (by rw [hlen];exact (by repeat' (first | exact trivial | exact ⟨_,.refl _,rfl⟩ | apply And.intro))) (.cons 12 rfl rfl (.refl _) (by rw [hsn,hlen];rfl) (.cons 16 rfl rfl (.refl _) (by rw [hks];rfl) .nil)) rfl rfl (by rw [hK];rfl)⟩
   ·have hje:j=ys.length:=by omega
    rw [hje,List.take_length] at hJ' hD';refine gGo ?_;exact ⟨2*E.length+1-(i+1),_,by omega,⟨i+1,D',hclose D' hJ',hN',by rw [hgo,hk2,hD'],rfl,rfl⟩,gX⟩
  ·(conv=>whnf);refine gGo ?_;intros;refine W.loopG (fun m st=>∃ (j:Nat) (D':Dist),j≤ys.length∧FarJ Wy (allT E goal) goal i q (ys.take j) D D'∧D'=(ys.take j).foldl (farS q.2) D∧Near D'∧q.2≤D'.length∧m=ys.length-j∧st=⟨[(0,.dmap (mkD (datES M))),(5,.omap 12 0),(6,.osl 16 0 0 (D').length (D').length),(7,.int .i64 (i:Nat)),(28,.sl (stpRows ys) false),(29,.int .i64 (stpRows ys).length),(30,.int .i64 (j:Nat))],[(12,[.map (distE (D')) (D').length (some [])]),(16,[.rows 1 (intRows .i64 (keysS (D'))) (some [])])],[12,16]⟩)
    ys.length _ ⟨0,D,by omega,hJ,rfl,hN2,hqn,by omega,rfl⟩ gX ?_
   rintro m st ⟨j,D',hj,hJ',hD',hN',hq',rfl,rfl⟩;have hDl':=hJ'.len;rw [hUl] at hDl';have hkl':(intRows .i64 (keysS D')).length=D'.length:=by rw [intRows_len];simp [keysS]
   have hil':=(List.getElem?_eq_some_iff.1 hJ'.at_).1;refine gT (fun hb=>?_) fun hb=>?_
   ·have hlt:j<ys.length:=by omega
    have hg:=stpRows_get hlt;have htk:=List.take_succ_eq_append_getElem hlt;have hUs:=hUq _ (List.getElem_mem hlt);generalize ys[j]=s at *;have hJ2:=hJ'.step hUs;have hfo:(ys.take (j+1)).foldl (farS q.2) D=farS q.2 D' s:=by rw [htk,List.foldl_append,←hD'];rfl
    have hN3:Near (farS q.2 D' s):=hN'.farS hq';rw [←htk] at hJ2;refine g ?_;refine zok_intro (by kernel_rfl) ?_;(conv=>whnf);by_cases hm:s.tt∈keysS D'
    ·obtain ⟨v,hv⟩:=lookD_some hm;obtain ⟨jv,hjv⟩:=distE_some hv;have hfs:farS q.2 D' s=D':=by unfold farS;rw [if_pos hm]
     rw [hfs] at hJ2 hfo hN3;refine ⟨_,hjv,?_⟩;(conv=>whnf);refine gGo ?_;exact ⟨ys.length-(j+1),_,by omega,⟨j+1,D',by omega,hJ2,hfo.symm,hN3,hq',rfl,rfl⟩,gX⟩
    ·have hdn:=distE_none hm;have hfs:farS q.2 D' s=D'++[(s.tt,q.2+1)]:=by unfold farS;rw [if_neg hm]
     rw [hfs] at hJ2 hfo hN3;have hgq':(intRows .i64 (keysS D'))[i]?=some [.int .i64 q.1]:=by
      unfold intRows keysS;rw [List.getElem?_map,List.getElem?_map,hJ'.at_];rfl
     obtain ⟨jv,hjv⟩:=distE_some (lookD_nd hJ'.nd hJ'.at_);have hsn:=distE_snoc D' s.tt (q.2+1);have hks:intRows .i64 (keysS (D'++[(s.tt,q.2+1)]))=intRows .i64 (keysS D')++[[.int .i64 s.tt]]:=by simp [intRows,keysS]
     have hlen:(D'++[(s.tt,q.2+1)]).length=D'.length+1:=by simp
     refine ⟨_,hdn,?_⟩;(conv=>whnf);refine g ?_;refine zok_intro (by kernel_rfl) ?_;(conv=>whnf);refine ⟨_,hjv,?_⟩;(conv=>whnf);refine gGo ?_;refine ⟨_,hdn,?_⟩;(conv=>whnf);refine gGo ?_;refine ⟨⟨rowsSz_cons rfl rowsSz_nil,hkl'.symm⟩,fitsN (n:=D'.length+1) (b:=8) (by omega) (by omega),.inl ⟨rfl,rfl,?_⟩⟩;(conv=>whnf);refine gGo ?_;exact ⟨ys.length-(j+1),_,by omega,⟨j+1,D'++[(s.tt,q.2+1)],by omega,hJ2,hfo.symm,hN3,by omega,rfl,rfl⟩,[(12,12),(16,16)],[],[],LeG.mk' rfl rfl rfl (by rw [hlen];exact (by repeat' (first | exact trivial | exact ⟨_,.refl _,rfl⟩ | apply And.intro))) (.cons 12 rfl rfl (.refl _) (by rw [hsn,hlen];rfl) (.cons 16 rfl rfl (.refl _) (by rw [hks];rfl) .nil)) rfl rfl (by rw [hK];rfl)⟩
   ·have hje:j=ys.length:=by omega
    rw [hje,List.take_length] at hJ' hD';refine gGo ?_;exact ⟨2*E.length+1-(i+1),_,by omega,⟨i+1,D',hclose D' hJ',hN',by rw [hgo,hk2,hD'],rfl,rfl⟩,gX⟩
 ·have hie:i=D.length:=by omega
  have hend:farR Wy (2*E.length+1-i) i D=D:=by
   cases 2*E.length+1-i with
   | zero=>rfl
   | succ k=>rw [farR,if_neg (by omega)]
  rw [hgo,hend];refine gGo ?_;intros;refine W.leG (mp:=[]) (bo:=[12]) (st':=⟨[(4,.dmap (mkD (distE D)))],[],[]⟩)
   (LeG.mk' rfl rfl rfl ⟨⟨_,.omapF 12 0 _ _ _ rfl rfl (distE_pure _ _),rfl⟩,trivial⟩ .nil rfl rfl (by rw [hK];rfl)) ?_
  (refine gM ?_;conv=>whnf);exact ret0 rfl rfl rfl
end Go.Sx.Sp
