/- Rows of a plan, as the program walks them. -/
import Derived.Test.YthlokmbefpjmgaaGreatDoorJSix
import Derived.Test.YthlokmbefpjmgaaGreatDoorSxFive
import Derived.Test.YthlokmbefpjmgaaGreatDoorJSeven
import Derived.Test.YthlokmbefpjmgaaGreatDoorSxFour
set_option linter.unusedVariables false
set_option linter.unusedSimpArgs false
namespace Go.Sx.Sp
open Go Go.Sx Go.Proofs
attribute [local irreducible] GoodW famL
theorem stpRows_sz (l:List Stp):rowsSz (stpRows l) 4:=by
 unfold rowsSz;intro r hr;obtain ⟨s,_,rfl⟩:=List.mem_map.1 hr;rfl
section
variable {l:List Table}{p:Pth}
end
end Go.Sx.Sp
namespace Go.Sx.Sp
open Go Go.Sx Go.Proofs
attribute [local irreducible] GoodW famL
theorem filter_flat {α β:Type}(P:α→Bool) (f:α→List β):∀ l:List α,(l.filter P).flatMap f=l.flatMap fun y=>if P y=true then f y else []
 | []=>rfl
 | x::l=>by
  rw [List.flatMap_cons,←filter_flat P f l];cases h:P x with
  | true=>rw [List.filter_cons_of_pos h,List.flatMap_cons];rfl
  | false=>rw [List.filter_cons_of_neg (by simp [h])];simp
theorem flat_congr {α β:Type}{f g:α→List β}{l:List α}(h:∀ x∈l,f x=g x):l.flatMap f=l.flatMap g:=by
 induction l with
 | nil=>rfl
 | cons x l ih=>rw [List.flatMap_cons,List.flatMap_cons,h x (by simp),ih fun y hy=>h y (by simp [hy])]
section
variable (l:List Table) (p:Pth)
def onB (i:Nat) (s:Str) (y:Nat):Bool:=!(cellT (tabN l p i) (ownN l p i) y).null&&(decide ((cellT (tabN l p i) (ownN l p i) y).text=s)&&decide (0<cntI l p i y))
def byL (i:Nat) (s:Str) (n:Nat):List Nat:=(List.range n).filter (onB l p i s)
def parC (hv:List Nat) (i:Nat):Cell:=cellT (tabN l p (parI p (i-1))) (frN l p i) (hv.getD (parI p (i-1)) 0)
def visL:Nat→List Nat→List (List Nat)
 | 0,hv=>[hv]
 | k+1,hv=>(byL l p hv.length (parC l p hv hv.length).text (rowsN (tabN l p hv.length))).flatMap fun y=>visL k (hv++[y])
def rowsW:List (List Nat):=((List.range (rowsN (tabN l p 0))).filter fun r=>decide (0<cntI l p 0 r)).flatMap fun r=>visL l p p.steps.length [r]
end
section
variable {l:List Table}{p:Pth}
theorem combK_snoc {hv:List Nat}{y j:Nat}(hj:hv.length=j+1) (hjs:j<p.steps.length) (hc:CombK l p hv.length (fun i=>hv.getD i 0)) (hy:y<rowsN (tabN l p hv.length)) (hf:stepFits l p j (hv.getD (parI p j) 0) y=true):CombK l p (hv++[y]).length (fun i=>(hv++[y]).getD i 0):=by
 have hpar:=parI_le p (i:=j) (by omega);rw [List.length_append,List.length_singleton];refine ⟨fun i hi=>?_,fun q hq=>?_⟩
 ·by_cases e:i=hv.length
  ·subst e;simp only [getD_last];exact hy
  ·simp only [getD_app (show i<hv.length by omega)];exact hc.lt i (by omega)
 ·have hp:=parI_le p (i:=q) (by omega);by_cases e:q+1=hv.length
  ·obtain rfl:q=j:=by omega
   simp only [e,getD_last,getD_app (show parI p q<hv.length by omega)];exact hf
  ·simp only [getD_app (show q+1<hv.length by omega),getD_app (show parI p q<hv.length by omega)];exact hc.fit q (by omega)
theorem ext_none (h:validE l p=0) {k:Nat}{hv:List Nat}(hne:hv≠[]) (hl:hv.length+k=p.steps.length+1) (hc:CombK l p hv.length (fun i=>hv.getD i 0)) {i:Nat}(hi:i<hv.length) (h0:cntI l p i (hv.getD i 0)=0):ext l p k hv=[]:=by
 cases he:ext l p k hv with
 | nil=>rfl
 | cons x r =>
  exfalso;obtain ⟨g1,g2,g3⟩:=ext_mem k hv x hne hl hc (by rw [he];simp);have:=comb_cnt' h g2 (i:=i) (by omega);simp only [g3 i hi] at this;exact this h0
theorem vis_eq (h:validE l p=0):∀ (k:Nat) (hv:List Nat),hv≠[]→hv.length+k=p.steps.length+1→CombK l p hv.length (fun i=>hv.getD i 0)→(∀ i,i<hv.length→cntI l p i (hv.getD i 0)≠0)→visL l p k hv=ext l p k hv
 | 0,hv,_,_,_,_=>rfl
 | k+1,hv,hne,hl,hc,hn=>by
  have hpos:0<hv.length:=List.length_pos_iff.2 hne;obtain ⟨j,hj⟩:∃ j,hv.length=j+1:=⟨hv.length-1,by omega⟩
  have hpar:=parI_le p (i:=j) (by omega);show (byL l p hv.length (parC l p hv hv.length).text (rowsN (tabN l p hv.length))).flatMap (fun y=>visL l p k (hv++[y]))=extN l p (ext l p k) hv (rowsN (tabN l p hv.length));unfold byL extN;rw [filter_flat];refine flat_congr fun y hy=>?_;have hy:=List.mem_range.1 hy;unfold extF;rw [show hv.length-1=j by omega];have hpn:=hn (parI p j) (by omega);have hpl:=hc.lt (parI p j) (by omega);have hnn:(parC l p hv hv.length).null=false:=by
   cases hb:(parC l p hv hv.length).null with
   | false=>rfl
   | true =>
    exfalso;have h1:=(cntI_ne (by omega) hpl).1 hpn j (by omega) rfl;refine h1 (fitS_null ?_);have h2:=hb;unfold parC at h2;rw [show hv.length-1=j by omega,hj] at h2;exact h2
  have hst:stepFits l p j (hv.getD (parI p j) 0) y=fitC (parC l p hv hv.length) (cellT (tabN l p hv.length) (ownN l p hv.length) y):=by
   unfold stepFits parC;rw [show hv.length-1=j by omega,hj]
  have hcn:=cntI_nonneg h (i:=hv.length) (by omega) y;by_cases hf:stepFits l p j (hv.getD (parI p j) 0) y=true
  ·rw [if_pos hf];have hc2:=combK_snoc hj (by omega) hc hy hf;have hl2:(hv++[y]).length+k=p.steps.length+1:=by rw [List.length_append,List.length_singleton];omega
   rw [hst] at hf;unfold fitC at hf;simp only [Bool.and_eq_true,Bool.not_eq_true',decide_eq_true_eq] at hf;by_cases h0:cntI l p hv.length y=0
   ·rw [if_neg (by unfold onB;rw [decide_eq_false (show ¬ 0<cntI l p hv.length y by omega)];simp)];exact (ext_none h (by simp) hl2 hc2 (i:=hv.length) (by simp) (by rw [getD_last];exact h0)).symm
   ·rw [if_pos (by unfold onB;rw [hf.2.1,decide_eq_true hf.2.2.symm,decide_eq_true (show 0<cntI l p hv.length y by omega)];rfl)];refine vis_eq h k (hv++[y]) (by simp) hl2 hc2 fun i hi=>?_;by_cases e:i=hv.length
    ·subst e;rw [getD_last];exact h0
    ·have hi2:i<hv.length:=by
      rw [List.length_append,List.length_singleton] at hi;omega
     rw [getD_app hi2];exact hn i hi2
  ·rw [if_neg hf,if_neg];intro ho;apply hf;rw [hst];unfold onB at ho;simp only [Bool.and_eq_true,Bool.not_eq_true',decide_eq_true_eq] at ho;unfold fitC;rw [hnn,ho.1,ho.2.1];simp
theorem rowsW_eq (h:validE l p=0):rowsW l p=rowsL l p:=by
 unfold rowsW rowsL rowsOfP;rw [filter_flat];refine flat_congr fun r hr=>?_;have hr:=List.mem_range.1 hr;have hcn:=cntI_nonneg h (i:=0) (by omega) r;have hc:CombK l p ([r]:List Nat).length (fun i=>([r]:List Nat).getD i 0):=⟨fun i hi=>(by
  have e:i=0:=(by rw [List.length_singleton] at hi;omega)
  subst e;exact hr),fun q hq=>(by rw [List.length_singleton] at hq;omega)⟩
 by_cases h0:cntI l p 0 r=0
 ·rw [if_neg (by simp [h0])];exact (ext_none h (k:=p.steps.length) (by simp) (by rw [List.length_singleton];omega) hc (i:=0) (by simp) h0).symm
 ·rw [if_pos (by simp;omega)];exact vis_eq h _ _ (by simp) (by rw [List.length_singleton];omega) hc fun i hi=>(by
   have e:i=0:=(by rw [List.length_singleton] at hi;omega)
   subst e;exact h0)
end
end Go.Sx.Sp
namespace Go.Sx.Sp
open Go Go.Sx Go.Proofs
attribute [local irreducible] GoodW famL
abbrev Bun:=List (Str×List Nat)
def lookB (T:Bun) (s:Str):List Nat:=match ixS s (keysT T) with | some j=>(T.getD j ([],[])).2 | none=>[]
def addB (T:Bun) (s:Str) (i:Nat):Bun:=match ixS s (keysT T) with | some j=>T.set j (s,lookB T s++[i]) | none=>T++[(s,[i])]
def ownV (F k:Nat):Bun→List (Str×V)
 | []=>[]
 | p::T=>(p.1,.osl F (k+2) 0 p.2.length p.2.length)::ownV F (k+1) T
def ownE (F:Nat) (T:Bun):List (Nat×V×V):=tabE 0 (ownV F 0 T)
def datE (T:Bun):List (Nat×V×V):=tabE 0 (T.map fun p=>(p.1,.sl (natRows p.2) false))
def lisB (L:List Nat):Blk:=.rows 1 (natRows L) (some [])
def ownF (T:Bun):List Blk:=lisB []::lisB []::T.map fun p=>lisB p.2
theorem ownF_fam (T:Bun):∀ b∈ownF T,b.famB=true:=fun b hb=>by
 unfold ownF at hb;rcases List.mem_cons.1 hb with rfl | hb
 ·rfl
 rcases List.mem_cons.1 hb with rfl | hb
 ·rfl
 obtain ⟨x,_,rfl⟩:=List.mem_map.1 hb;rfl
theorem ownF_len (T:Bun):(ownF T).length=T.length+2:=by simp [ownF]
theorem ownF_get {T:Bun}{j:Nat}{q:Str×List Nat}(h:T[j]?=some q):(ownF T)[j+2]?=some (lisB q.2):=by
 unfold ownF;rw [List.getElem?_cons_succ,List.getElem?_cons_succ,List.getElem?_map,h];rfl
theorem ownV_len (F:Nat):∀ (T:Bun) (k:Nat),(ownV F k T).length=T.length
 | [],_=>rfl
 | p::T,k=>by simp [ownV,ownV_len F T]
theorem ownV_keys (F:Nat):∀ (T:Bun) (k:Nat),keysT (ownV F k T)=keysT T
 | [],_=>rfl
 | p::T,k=>by
  have:=ownV_keys F T (k+1);simp only [keysT] at this ⊢;simp [ownV,this]
theorem ownV_get (F:Nat):∀ (T:Bun) (k j:Nat),(ownV F k T)[j]?=(T[j]?).map fun p=>(p.1,.osl F (k+j+2) 0 p.2.length p.2.length)
 | [],k,j=>by simp [ownV]
 | p::T,k,0=>by simp [ownV]
 | p::T,k,j+1=>by
  simp only [ownV,List.getElem?_cons_succ];rw [ownV_get F T (k+1) j,show k+1+j=k+(j+1) by omega]
theorem ownE_len (F:Nat) (T:Bun):(ownE F T).length=T.length:=by simp [ownE,tabE_len,ownV_len]
theorem ixS_get {α:Type}{T:List (Str×α)}{s:Str}{j:Nat}(h:ixS s (keysT T)=some j):∃ v,T[j]?=some (s,v):=by
 have h1:=ixS_some h;unfold keysT at h1;rw [List.getElem?_map,Option.map_eq_some_iff] at h1;obtain ⟨⟨a,v⟩,h2,h3⟩:=h1;simp only at h3;subst h3;exact ⟨v,h2⟩
theorem lookB_at {T:Bun}{s:Str}{j:Nat}(h:ixS s (keysT T)=some j):T[j]?=some (s,lookB T s):=by
 obtain ⟨v,hv⟩:=ixS_get h;unfold lookB;rw [h,hv];simp [List.getD_eq_getElem?_getD,hv]
theorem ownE_at (F:Nat) (T:Bun) (s:Str):mapAt (.str s) (ownE F T)=some ((ixS s (keysT T)).map fun j=>(j,j,.osl F (j+2) 0 (lookB T s).length (lookB T s).length)):=by
 unfold ownE;rw [tabE_at,ownV_keys];cases h:ixS s (keysT T) with
 | none=>rfl
 | some j =>
  have h1:=lookB_at h;have h2:=ownV_get F T 0 j;rw [h1] at h2;simp only [Option.map_some] at h2 ⊢;rw [List.getD_eq_getElem?_getD,h2];simp
theorem addB_some {T:Bun}{s:Str}{i j:Nat}(h:ixS s (keysT T)=some j):addB T s i=T.set j (s,lookB T s++[i]):=by unfold addB;rw [h]
theorem addB_none {T:Bun}{s:Str}{i:Nat}(h:ixS s (keysT T)=none):addB T s i=T++[(s,[i])]:=by unfold addB;rw [h]
theorem addB_len (T:Bun) (s:Str) (i:Nat):(addB T s i).length≤T.length+1:=by
 unfold addB;split<;>simp
theorem ownE_set {F:Nat}{T:Bun}{s:Str}{i j n:Nat}(h:ixS s (keysT T)=some j) (hn:n=(lookB T s).length+1):(ownE F T).set j (j,.str s,.osl F (j+2) 0 n n)=ownE F (addB T s i):=by
 rw [addB_some h];apply List.ext_getElem?;intro k;have hj:=ixS_lt h;unfold ownE;rw [List.getElem?_set,tabE_len,ownV_len,tabE_get,tabE_get,ownV_get,ownV_get,List.getElem?_set];by_cases e:j=k
 ·subst e;simp [hj,hn]
 ·simp [e]
theorem ownF_set {T:Bun}{s:Str}{i j:Nat}(h:ixS s (keysT T)=some j):(ownF T).set (j+2) (lisB (lookB T s++[i]))=ownF (addB T s i):=by
 rw [addB_some h];unfold ownF;rw [List.map_set];rfl
theorem ownF_new {T:Bun}{s:Str}{i:Nat}(h:ixS s (keysT T)=none):ownF T++[lisB [i]]=ownF (addB T s i):=by
 rw [addB_none h];simp [ownF]
theorem ownE_gat {T:Bun}{s:Str}{i d F c c1:Nat}(hdF:d≠F) (h:ixS s (keysT T)=none) (hc:c=T.length) (ks:Option (List Nat)):BGat d F (T.length+2) (.map (ownE F T++[(c,.str s,.osl d 0 0 1 1)]) c1 ks) (.map (ownE F (addB T s i)) c1 (some [F])):=by
 subst hc;have hl:(ownE F (addB T s i)).length=T.length+1:=by rw [ownE_len,addB_none h];simp
 refine .map _ _ _ _ _ (by rw [hl,List.length_append,ownE_len];rfl) fun j b k v1 hj=>?_;have hjl:j<T.length+1:=by
  have:=(List.getElem?_eq_some_iff.1 hj).1
  rwa [hl] at this
 unfold ownE at hj;rw [tabE_get,ownV_get,addB_none h] at hj;by_cases e:j=T.length
 ·subst e;rw [List.getElem?_append_right (Nat.le_refl _),Nat.sub_self] at hj;simp only [List.getElem?_cons_zero,Option.map_some,Nat.zero_add,Option.some.injEq,Prod.mk.injEq] at hj;obtain ⟨rfl,rfl,rfl⟩:=hj;refine ⟨.osl d 0 0 1 1,?_,?_,fun l hl s hs=>?_⟩
  ·rw [List.getElem?_append_right (by rw [ownE_len];exact Nat.le_refl _),ownE_len,Nat.sub_self];rfl
  ·simp [V.gat]
  ·cases hl;simpa [V.sites] using hs
 ·have hj2:j<T.length:=by omega
  rw [List.getElem?_append_left hj2,List.getElem?_eq_getElem hj2] at hj;simp only [Option.map_some,Nat.zero_add,Option.some.injEq,Prod.mk.injEq] at hj;obtain ⟨rfl,rfl,rfl⟩:=hj;refine ⟨.osl F (j+2) 0 T[j].2.length T[j].2.length,?_,?_,fun l hl s hs=>?_⟩
  ·rw [List.getElem?_append_left (by rw [ownE_len];exact hj2)];unfold ownE;rw [tabE_get,ownV_get,List.getElem?_eq_getElem hj2];simp
  ·simp [V.gat,hj2,Ne.symm hdF]
  ·cases hl;simpa [V.sites] using hs
theorem ownE_sites {F:Nat}{T:Bun}:∀ (i:Nat) b key v,(ownE F T)[i]?=some (b,key,v)→∀ s∈v.sites,s∈[F]:=fun i b key v hi s hs=>by
 unfold ownE at hi;rw [tabE_get,ownV_get] at hi;cases hT:T[i]? with
 | none=>rw [hT] at hi;simp at hi
 | some q =>
  rw [hT] at hi;simp only [Option.map_some,Option.some.injEq,Prod.mk.injEq] at hi;obtain ⟨rfl,rfl,rfl⟩:=hi;simpa [V.sites] using hs
theorem datE_look (T:Bun) (s:Str):∃ r,mapAt (.str s) (datE T)=some r∧((ixS s (keysT T)=none∧r=none)∨∃ j,ixS s (keysT T)=some j∧r=some (j,j,.sl (natRows (lookB T s)) false)):=by
 unfold datE;refine ⟨_,tabE_at s _ 0,?_⟩;have hk:keysT (T.map fun p=>(p.1,V.sl (natRows p.2) false))=keysT T:=by simp [keysT]
 rw [hk];cases h:ixS s (keysT T) with
 | none=>exact .inl ⟨rfl,rfl⟩
 | some j =>
  refine .inr ⟨j,rfl,?_⟩;have h1:=lookB_at h;simp [List.getD_eq_getElem?_getD,h1]
theorem lookB_none {T:Bun}{s:Str}(h:ixS s (keysT T)=none):lookB T s=[]:=by unfold lookB;rw [h]
theorem datE_lent {H:Nat→List Blk}{F c:Nat}{T:Bun}{bo:List Nat}{ks:Option (List Nat)}(hF:H F=ownF T) (hb:memB F bo=true):BLent H bo (.map (ownE F T) c ks) (.map (datE T) c (some [])):=by
 refine .mapF _ _ _ _ (by simp [datE,ownE_len,tabE_len]) fun j b k v1 hj=>?_;unfold datE at hj;rw [tabE_get,List.getElem?_map] at hj;cases hT:T[j]? with
 | none=>rw [hT] at hj;simp at hj
 | some q =>
  rw [hT] at hj;simp only [Option.map_some,Nat.zero_add,Option.some.injEq,Prod.mk.injEq] at hj;obtain ⟨rfl,rfl,rfl⟩:=hj;refine ⟨.osl F (j+2) 0 q.2.length q.2.length,?_,?_,by simp [V.sites]⟩
  ·unfold ownE;rw [tabE_get,ownV_get,hT];simp
  ·have h1:(H F)[j+2]?=some (.rows 1 (natRows q.2) (some [])):=by
    rw [hF];exact ownF_get hT
   have:=Lent.oslF (H:=H) (bo:=bo) F (j+2) 0 q.2.length q.2.length 1 (natRows q.2) (some []) hb h1 (natRows_len q.2).symm (.inl rfl);rw [List.drop_zero,List.take_of_length_le (by rw [natRows_len];exact Nat.le_refl _)] at this;exact this
theorem datE_pure (T:Bun) (ks:Option (List Nat)):pureEs (datE T) ks:=.inr fun p hp=>by
 obtain ⟨j,hj⟩:=List.getElem?_of_mem hp;unfold datE at hj;rw [tabE_get,List.getElem?_map] at hj;cases hT:T[j]? with
 | none=>rw [hT] at hj;simp at hj
 | some q=>rw [hT] at hj;simp at hj;rw [←hj];simp [V.sites]
theorem lookB_add (T:Bun) (s u:Str) (i:Nat):lookB (addB T s i) u=if u=s then lookB T s++[i] else lookB T u:=by
 cases h:ixS s (keysT T) with
 | none =>
  rw [addB_none h,lookB_none h];have hs:=ixS_none.1 h;unfold lookB;have hk:keysT (T++[(s,[i])])=keysT T++[s]:=by simp [keysT]
  rw [hk];cases hu:ixS u (keysT T) with
  | none =>
   have hu2:=ixS_none.1 hu;by_cases e:u=s
   ·subst e;have:ixS u (keysT T++[u])=some T.length:=by
     have hm:∀ l:List Str,u∉l→ixS u (l++[u])=some l.length:=fun l=>by
      induction l with
      | nil=>intro _;simp [ixS]
      | cons x l ih =>
       intro hn;have h1:¬ u=x:=fun e=>hn (by simp [e]);simp [ixS,h1,ih fun hm=>hn (by simp [hm])]
     rw [hm _ hu2];simp [keysT]
    rw [this,if_pos rfl];simp
   ·have:ixS u (keysT T++[s])=none:=ixS_none.2 (by simp [hu2,e]);rw [this,if_neg e]
  | some j =>
   have hj:=ixS_lt hu;have hne:¬ u=s:=fun e=>by subst e;rw [h] at hu;cases hu
   have:ixS u (keysT T++[s])=some j:=by
    have hm:∀ (l:List Str) (j:Nat),ixS u l=some j→ixS u (l++[s])=some j:=fun l=>by
     induction l with
     | nil=>intro j hj;simp [ixS] at hj
     | cons x l ih =>
      intro j hj;by_cases e:u=x
      ·simp [ixS,e] at hj ⊢;exact hj
      ·simp only [ixS,e,if_false,Option.map_eq_some_iff,List.cons_append] at hj ⊢;obtain ⟨q,hq,rfl⟩:=hj;exact ⟨q,ih q hq,rfl⟩
    exact hm _ _ hu
   rw [this,if_neg hne];simp [List.getD_eq_getElem?_getD,List.getElem?_append_left hj]
 | some j =>
  rw [addB_some h];have hj:=ixS_lt h;have hg:=lookB_at h;generalize lookB T s=L at *;have hk:keysT (T.set j (s,L++[i]))=keysT T:=by
   unfold keysT;rw [List.map_set];apply List.ext_getElem?;intro k;rw [List.getElem?_set];by_cases e:j=k
   ·subst e;rw [if_pos rfl,if_pos (by rw [List.length_map];exact hj),List.getElem?_map,hg];rfl
   ·rw [if_neg e]
  unfold lookB;rw [hk];by_cases e:u=s
  ·subst e;rw [h,if_pos rfl];simp [List.getD_eq_getElem?_getD,hj]
  ·rw [if_neg e];cases hu:ixS u (keysT T) with
   | none=>rfl
   | some q =>
    have hne:j≠q:=fun e2=>by
     subst e2;have h1:=ixS_some h;have h2:=ixS_some hu;rw [h1] at h2;cases h2;exact e rfl
    simp [List.getD_eq_getElem?_getD,List.getElem?_set,hne]
def bunS (P:Nat→Bool) (tx:Nat→Str):Nat→Bun
 | 0=>[]
 | n+1=>if P n=true then addB (bunS P tx n) (tx n) n else bunS P tx n
theorem bunS_look (P:Nat→Bool) (tx:Nat→Str) (u:Str):∀ n,lookB (bunS P tx n) u=(List.range n).filter fun y=>P y&&decide (tx y=u)
 | 0=>rfl
 | n+1=>by
  have ih:=bunS_look P tx u n;have hs:bunS P tx (n+1)=if P n=true then addB (bunS P tx n) (tx n) n else bunS P tx n:=rfl
  rw [List.range_succ,List.filter_append,←ih,hs];cases h:P n with
  | false=>simp [h]
  | true =>
   rw [if_pos rfl,lookB_add];by_cases e:tx n=u
   ·subst e;simp [h]
   ·rw [if_neg (Ne.symm e)];simp [h,e]
theorem bunS_len (P:Nat→Bool) (tx:Nat→Str):∀ n,(bunS P tx n).length≤n
 | 0=>Nat.le_refl _
 | n+1=>by
  have ih:=bunS_len P tx n;have hs:bunS P tx (n+1)=if P n=true then addB (bunS P tx n) (tx n) n else bunS P tx n:=rfl
  rw [hs];split
  ·have:=addB_len (bunS P tx n) (tx n) n;omega
  ·omega
theorem lookB_le (P:Nat→Bool) (tx:Nat→Str) (u:Str) (n:Nat):(lookB (bunS P tx n) u).length≤n:=by
 rw [bunS_look];refine Nat.le_trans (List.length_filter_le _ _) ?_;rw [List.length_range];exact Nat.le_refl _
def planR (l:List Table) (p:Pth):List V:=[.sl (nodRows (planN l p)) false]
theorem plan_row {l:List Table}{p:Pth}{i:Nat}(hi:i≤p.steps.length):(nodRows (planN l p))[i]?=some ((nodeAt l p p.steps.length i).rowW (.sl (natRows (kidsL p p.steps.length i)) false) (.sl (intRows .i64 (cntsN l p i)) false) (.dmap (mkD (sumE (talsN l p i))))):=by
 have h1:=plan_get l p hi;unfold nodRows;rw [List.getElem?_map,h1];show some (Nod.row { nodeAt l p p.steps.length i with done:=some (cntsN l p i,talsN l p i) })=_;unfold Nod.row Nod.cv Nod.sv Nod.rowW;simp only [nodeAt_kids]
theorem plan_rows (l:List Table) (p:Pth):(nodRows (planN l p)).length=p.steps.length+1:=by rw [nodRows_len,planN_len]
def totN (l:List Table) (p:Pth):Int:=sumTo (rowsN (tabN l p 0)) (cntI l p 0)
theorem cntsN_get {l:List Table}{p:Pth}{i y:Nat}(hy:y<rowsN (tabN l p i)):(intRows .i64 (cntsN l p i))[y]?=some [.int .i64 (cntI l p i y)]:=by
 have h1:y<(cntsN l p i).length:=by rw [cntsN_len];exact hy
 rw [intRows_get h1];unfold cntI;rw [List.getD_eq_getElem?_getD,List.getElem?_eq_getElem h1];rfl
theorem cntI_bound {l:List Table}{p:Pth}(h:validE l p=0) {i y:Nat}(hi:i≤p.steps.length) (hy:y<rowsN (tabN l p i)):0≤cntI l p i y∧cntI l p i y≤1125899906842624:=by
 refine plan_bound h hi _ ?_;unfold cntI;have h1:y<(cntsN l p i).length:=by rw [cntsN_len];exact hy
 rw [List.getD_eq_getElem?_getD,List.getElem?_eq_getElem h1];exact List.getElem_mem h1
theorem sumTo_bound {f:Nat→Int}{M:Int}:∀ n,(∀ y,y<n→0≤f y∧f y≤M)→0≤sumTo n f∧sumTo n f≤n*M
 | 0,_=>by simp [sumTo]
 | n+1,hf=>by
  have ih:=sumTo_bound n fun y hy=>hf y (by omega);have:=hf n (by omega);rw [sumTo_succ,Int.natCast_add,Int.add_mul];constructor
  ·omega
  ·have e:((1:Nat):Int)*M=M:=by simp
   rw [e];omega
theorem tabN_ok {l:List Table}{p:Pth}(h:validE l p=0) {i:Nat}(hi:i≤p.steps.length):validB (tabN l p i)=true:=by
 have hv:=valid_path h;have key:∀ n,(findT l n).isSome=true→validB (tabOf l n)=true:=fun n hn=>by
  obtain ⟨t,ht⟩:=Option.isSome_iff_exists.1 hn;unfold tabOf;rw [ht];exact listB_valid hv.1 t (findT_mem ht).1
 have hp:=hv.2.2;cases i with
 | zero =>
  refine key p.start ?_;unfold pathB at hp;rw [Bool.and_eq_true] at hp;exact hp.1
 | succ i =>
  have hs:=pathB_step hp (i:=i) (by omega);have htt:tabN l p (i+1)=tabOf l (stpAt p i).tt:=rfl;rw [htt];refine key _ ?_;cases hf:findT l (stpAt p i).tt with
  | some t=>rfl
  | none =>
   exfalso;have h2:=hs.tc;unfold tabOf at h2;rw [hf] at h2;simp [Table.zero] at h2;omega
set_option maxHeartbeats 4000000 in
theorem total_spec {l:List Table}{p:Pth}(h:validE l p=0):Spec Tryz.prog 91 [.ro (planR l p) 0] [] (.int .i64 (totN l p)) []:=by
 have hx:=plan_row (l:=l) (p:=p) (Nat.zero_le _);have hl:=plan_rows l p;have hcl:=intRows_len .i64 (cntsN l p 0);rw [cntsN_len] at hcl;change _=rowsN (tabN l p 0) at hcl;have hr4:=(validB_rows (tabN_ok h (Nat.zero_le _))).1;have hcg:∀ y,y<rowsN (tabN l p 0)→(intRows .i64 (cntsN l p 0))[y]?=some [.int .i64 (cntI l p 0 y)]:=fun y hy=>cntsN_get hy;have hcb:∀ y,y<rowsN (tabN l p 0)→0≤cntI l p 0 y∧cntI l p 0 y≤1125899906842624:=fun y hy=>cntI_bound h (Nat.zero_le _) hy;unfold totN planR;generalize rowsN (tabN l p 0)=n at *;generalize cntI l p 0=f at *;generalize intRows .i64 (cntsN l p 0)=cs at *;have hsb:∀ j,j≤n→0≤sumTo j f∧sumTo j f≤4096*1125899906842624:=fun j hj=>by
  have h1:=sumTo_bound (f:=f) (M:=1125899906842624) j fun y hy=>hcb y (by omega);refine ⟨h1.1,Int.le_trans h1.2 (Int.mul_le_mul_of_nonneg_right (by omega) (by decide))⟩
 refine gEn env Tryz.func91 fun Γ hN hK hML=>?_;(refine g ?_;intros);refine W.loopG (fun m st=>∃ j:Nat,j≤n∧m=n-j∧st=⟨[(3,.int .i64 (sumTo j f)),(12,.sl cs false),(13,.int .i64 cs.length),(14,.int .i64 j)],[],[]⟩)
  n _ ⟨0,by omega,by omega,rfl⟩ gX ?_
 rintro m st ⟨j,hj,rfl,rfl⟩;have hs0:=hsb j hj;refine gT (fun hb=>?_) fun hb=>?_
 ·have hlt:j<n:=by omega
  have hg:=hcg j hlt;have hs1:=hsb (j+1) (by omega);rw [sumTo_succ] at hs1;have hsn:=sumTo_succ j f;refine g ?_;refine ⟨_,_,?_,⟨j+1,by omega,rfl,rfl⟩,[],[],[],LeG.mk' rfl rfl rfl (by rw [hsn];exact (by repeat' (first | exact trivial | exact ⟨_,.refl _,rfl⟩ | apply And.intro))) .nil rfl rfl (by rw [hK];rfl)⟩;omega
 ·obtain rfl:j=n:=by omega
  exact gR
theorem tabsM_take {l:List Table}{p:Pth}{j:Nat}(h:j≤p.steps.length):(tabsM l p).take (j+1)=(tabsM l p).take j++[tabN l p j]:=by
 have h1:=tabsM_get l p h;obtain ⟨h2,h3⟩:=List.getElem?_eq_some_iff.1 h1;rw [List.take_succ_eq_append_getElem h2,h3]
set_option maxHeartbeats 4000000 in
theorem tablesW_spec {l:List Table}{p:Pth}(h:validE l p=0):Spec Tryz.prog 93 [.ro (planR l p) 0] [] (.sl (tblRows (tabsM l p)) false) []:=by
 have hl:=plan_rows l p;have h4:=(valid_path h).2.1;have hml:=tabsM_len l p;unfold planR;refine gEn env Tryz.func93 fun Γ hN hK hML=>?_;refine gGo ?_;intros;refine W.ownNil 3 111 3 rfl rfl ?_;refine W.loopG (fun m st=>∃ j:Nat,j≤p.steps.length+1∧m=p.steps.length+1-j∧st=⟨[(3,.osl 111 0 0 (tblRows ((tabsM l p).take j)).length (tblRows ((tabsM l p).take j)).length),(9,.sl (nodRows (planN l p)) false),(10,.int .i64 (nodRows (planN l p)).length),(11,.int .i64 j)],[(111,[.rows 3 (tblRows ((tabsM l p).take j)) (some [])])],[111]⟩)
  (p.steps.length+1) _ ⟨0,by omega,by omega,rfl⟩ gX ?_
 rintro m st ⟨j,hj,rfl,rfl⟩;refine gT (fun hb=>?_) fun hb=>?_
 ·have hlt:j≤p.steps.length:=by omega
  have hg:=plan_row (l:=l) (p:=p) hlt;have htk:=tabsM_take (l:=l) (p:=p) hlt;have hsn:=tblRows_snoc ((tabsM l p).take j) (tabN l p j);rw [←htk] at hsn;have hlr:(tblRows ((tabsM l p).take j)).length=j:=by rw [tblRows_len,List.length_take];omega
  generalize tblRows ((tabsM l p).take j)=R0 at *;refine g ?_;refine ⟨⟨rowsSz_cons rfl rowsSz_nil,rfl⟩,fitsN (n:=R0.length+1) (b:=48) (by omega) (by omega),.inl ⟨rfl,rfl,?_⟩⟩;(conv=>whnf);refine gGo ?_;refine ⟨_,_,?_,⟨j+1,by omega,rfl,rfl⟩,[(111,111)],[],[],LeG.mk' rfl rfl rfl (by rw [hsn,List.length_append];exact (by repeat' (first | exact trivial | exact ⟨_,.refl _,rfl⟩ | apply And.intro))) (.cons 111 rfl rfl (.refl _) (by rw [hsn];rfl) .nil) rfl rfl (by rw [hK];rfl)⟩;omega
 ·obtain hje:j=p.steps.length+1:=by omega
  rw [hje,List.take_of_length_le (by omega)];refine gGo ?_;refine W.leG (mp:=[]) (bo:=[111]) (st':=⟨[(2,.sl (tblRows (tabsM l p)) false)],[],[]⟩) (LeG.mk' rfl rfl rfl ⟨⟨_,Lent.whole rfl rfl rfl rfl (.inl rfl),rfl⟩,trivial⟩ .nil rfl rfl (by rw [hK];rfl)) ?_;(refine gM ?_;conv=>whnf);exact ret0 rfl rfl rfl
set_option maxHeartbeats 1000000 in
theorem cloneOI (rows:List (List V)) (hz:rowsSz rows 1) (hin:∀ U:Nat→Bool,(rows.all fun r=>r.all fun v=>v.sites.all U)=true) (hlen:rows.length≤4294967296):Spec Tryz.prog 142 [.sl rows false] [] (.osl 5 0 0 rows.length rows.length) [(5,.rows 1 rows none)]:=by
 have hfit:fitsV rows.length 8:=fitN hlen (by omega);refine gEn env Tryz.func142 fun Γ hN hK hML=>?_;cases rows with
 | nil =>
  refine gA ?_;(refine gE env hN (by kernel_rfl) ?_;conv=>whnf);refine W.nilSplit (full:=false) 0 (by rfl) ?_ ?_
  ·refine gGo ?_;refine W.ownNil 2 5 1 rfl rfl ?_;refine W.ref (Ref.unks 5 rfl) ?_;(refine gM ?_;conv=>whnf);exact retH rfl (.refl _) rfl rfl rfl ⟨rfl,rfl,trivial⟩
  ·refine gGl ?_;refine Or.inl ?_;(conv=>whnf);refine gGo ?_;refine ⟨⟨trivial,rfl⟩,⟨by decide,by decide⟩,.inl ⟨rfl,rfl,?_⟩⟩;(conv=>whnf);refine gGo ?_;refine W.ref (Ref.unks 5 rfl) ?_;(refine gM ?_;conv=>whnf);exact retH rfl (.refl _) rfl rfl rfl ⟨rfl,rfl,trivial⟩
 | cons r rs =>
  refine gGl ?_;refine Or.inl ?_;(conv=>whnf);refine gGo ?_;refine ⟨⟨hz,rfl⟩,by simpa using hfit,.inl ⟨rfl,rfl,?_⟩⟩;simp only [Nat.zero_add,List.nil_append];(conv=>whnf);refine gGo ?_;refine W.ref (Ref.unks 5 rfl) ?_;(refine gM ?_;conv=>whnf);exact retH rfl (.refl _) rfl rfl rfl ⟨rfl,hin _,trivial⟩
theorem natRows_flat (l:List Nat):((natRows l).all fun r=>flatL r)=true:=by
 unfold natRows;rw [List.all_eq_true];intro r hr;obtain ⟨c,_,rfl⟩:=List.mem_map.1 hr;rfl
theorem natRows_in (l:List Nat) (U:Nat→Bool):((natRows l).all fun r=>r.all fun v=>v.sites.all U)=true:=by
 unfold natRows;rw [List.all_eq_true];intro r hr;obtain ⟨c,_,rfl⟩:=List.mem_map.1 hr;rfl
theorem natRows_pr (l:List Nat) (ks:Option (List Nat)):pureRows (natRows l) ks:=.inr (natRows_pure l)
theorem natRows_ren (l:List Nat) (ρ:Nat→Option Nat):(natRows l).map (renL ρ)=natRows l:=by
 unfold natRows;rw [List.map_map];rfl
def bunN (l:List Table) (p:Pth) (i n:Nat):Bun:=bunS (fun y=>!(cellT (tabN l p i) (ownN l p i) y).null&&decide (0<cntI l p i y)) (fun y=>(cellT (tabN l p i) (ownN l p i) y).text) n
theorem bunN_look (l:List Table) (p:Pth) (i n:Nat) (s:Str):lookB (bunN l p i n) s=byL l p i s n:=by
 unfold bunN byL;rw [bunS_look];refine List.filter_congr fun y _=>?_;unfold onB;cases (cellT (tabN l p i) (ownN l p i) y).null<;>cases decide (0<cntI l p i y)<;>simp
def byD (l:List Table) (p:Pth) (k:Nat):List (List V):=(List.range (p.steps.length+1)).map fun i=>if 0<i∧i<k then [.dmap (mkD (datE (bunN l p i (rowsN (tabN l p i)))))] else [.nilm]
theorem byD_len (l:List Table) (p:Pth) (k:Nat):(byD l p k).length=p.steps.length+1:=by simp [byD]
theorem byD_get {l:List Table}{p:Pth}{k i:Nat}(h0:0<i) (hi:i<k) (hk:i≤p.steps.length):(byD l p k)[i]?=some [.dmap (mkD (datE (bunN l p i (rowsN (tabN l p i)))))]:=by
 unfold byD;rw [List.getElem?_map,List.getElem?_range (by omega)];simp [h0,hi]
def visH (l:List Table) (p:Pth) (out:List (List Nat)) (row:List Nat):List (Nat×Blk):=
 [(90,.rows 1 [[.ro (planR l p) 0]] none),(91,.rows 1 [[.osl 95 0 0 (rowRows out).length (rowRows out).length]] none),(92,.rows 1 [[.osl 96 0 0 (natRows row).length (natRows row).length]] none),(93,.rows 1 [[.sl (byD l p (p.steps.length+1)) false]] none),(94,.rows 1 [[.fn 141 [.bp 90 0,.bp 91 0,.bp 92 0,.bp 93 0,.bp 94 0]]] none),(95,.rows 1 (rowRows out) (some [])),(96,.rows 1 (natRows row) (some []))]
def restA (l:List Table) (p:Pth):Nat→List Nat→List Nat→List Nat
 | 0,_,rest=>rest
 | k+1,hv,rest=>(byL l p hv.length (parC l p hv hv.length).text (rowsN (tabN l p hv.length))).foldl (fun r y=>y::restA l p k (hv++[y]) r.tail) rest
theorem restA_len (l:List Table) (p:Pth):∀ (k:Nat) (hv rest:List Nat),rest.length=k→(restA l p k hv rest).length=k
 | 0,_,rest,h=>h
 | k+1,hv,rest,h=>by
  unfold restA;generalize byL l p hv.length (parC l p hv hv.length).text (rowsN (tabN l p hv.length))=ys
  induction ys generalizing rest with
  | nil=>exact h
  | cons y ys ih =>
   rw [List.foldl_cons];refine ih _ ?_;rw [List.length_cons,restA_len l p k _ _ (by rw [List.length_tail];omega)]
theorem rowRows_lent {H:Nat→List Blk}{bo:List Nat}{out:List (List Nat)}{row:List Nat}{q:Nat}{ks ks2:Option (List Nat)}(hb:memB q bo=true) (hq:H q=[.rows 1 (natRows row) ks2]) (hp:pureRows (natRows row) ks2):BLent H bo (.rows 1 (rowRows out++[[.osl q 0 0 (natRows row).length (natRows row).length]]) ks) (.rows 1 (rowRows (out++[row])) (some [])):=by
 refine .rowsF _ _ _ _ (by simp [rowRows]) fun i r1 hi=>?_;rw [rowRows_snoc] at hi;by_cases e:i<(rowRows out).length
 ·rw [List.getElem?_append_left e] at hi;refine ⟨r1,by rw [List.getElem?_append_left e];exact hi,rfl,fun j v1 hj=>⟨v1,hj,.refl _,?_⟩⟩;unfold rowRows at hi;rw [List.getElem?_map,Option.map_eq_some_iff] at hi;obtain ⟨x,_,rfl⟩:=hi;cases j with
  | zero=>cases hj;exact ⟨rfl,rfl⟩
  | succ j=>simp at hj
 ·have e2:i=(rowRows out).length:=by
   have:=(List.getElem?_eq_some_iff.1 hi).1;rw [List.length_append,List.length_singleton] at this;omega
  subst e2;rw [List.getElem?_append_right (Nat.le_refl _),Nat.sub_self] at hi;cases hi;refine ⟨[.osl q 0 0 (natRows row).length (natRows row).length],by rw [List.getElem?_append_right (Nat.le_refl _),Nat.sub_self];rfl,rfl,fun j v1 hj=>?_⟩;cases j with
  | zero =>
   cases hj;exact ⟨_,rfl,Lent.whole hb hq rfl rfl hp,rfl,rfl⟩
  | succ j=>simp at hj
set_option maxHeartbeats 16000000 in
theorem visit_spec {l:List Table}{p:Pth}(h:validE l p=0):∀ (k:Nat) (hv rest:List Nat) (out:List (List Nat)),hv≠[]→hv.length+k=p.steps.length+1→rest.length=k→CombK l p hv.length (fun i=>hv.getD i 0)→(∀ i,i<hv.length→cntI l p i (hv.getD i 0)≠0)→out.length+(visL l p k hv).length≤4096 →
  Spec Tryz.prog 141 [.int .i64 (hv.length:Nat),.bp 90 0,.bp 91 0,.bp 92 0,.bp 93 0,.bp 94 0] (visH l p out (hv++rest)) (.tup []) (visH l p (out++visL l p k hv) (hv++restA l p k hv rest))
 | 0,hv,rest,out,hne,hlen,hrl,hc,hn,hout=>by
  obtain rfl:rest=[]:=List.length_eq_zero_iff.1 hrl;have he:visL l p 0 hv=[hv]:=rfl;rw [he] at hout;rw [he,show restA l p 0 hv []=[] from rfl,List.append_nil];rw [List.length_singleton] at hout;have hpl:=plan_rows l p;have hnl:=natRows_len hv;have hrr:=rowRows_len out;have h4:=(valid_path h).2.1;have sp:=cloneOI (natRows hv) (natRows_sz hv) (natRows_in hv) (by omega);have hnf:=natRows_flat hv;unfold visH;refine gEn env Tryz.func141 fun Γ hN hK hML=>?_;refine gGo ?_;refine gGo ?_;intros;refine gCA [] [(5,50)] [96] sp ?_ (hargs:=by repeat' (first | exact trivial | exact Lent.whole rfl rfl rfl rfl (.inl rfl) | apply And.intro)) (ok:=⟨rfl,rfl,rfl,rfl,rfl,trivial,rfl,(by show (false||(true&&((natRows hv).all fun r=>flatL r)&&true))=true;rw [hnf];rfl)⟩);(conv=>whnf);rw [natRows_ren,forceR_eq];(conv=>whnf);refine gGl ?_;refine Or.inl ?_;(conv=>whnf);refine gGo ?_;refine ⟨⟨rfl,rfl⟩,fitsN (n:=(rowRows out).length+1) (b:=24) (by omega) (by omega),.inl ⟨rfl,rfl,?_⟩⟩;(conv=>whnf);refine gGo ?_;refine W.leG (mp:=[(90,90),(91,91),(92,92),(93,93),(94,94),(95,95),(96,96)]) (bo:=[50]) (st':=⟨[],[(90,[.rows 1 [[.ro (planR l p) 0]] none]),(91,[.rows 1 [[.osl 95 0 0 (rowRows (out++[hv])).length (rowRows (out++[hv])).length]] none]),(92,[.rows 1 [[.osl 96 0 0 (natRows hv).length (natRows hv).length]] none]),(93,[.rows 1 [[.sl (byD l p (p.steps.length+1)) false]] none]),(94,[.rows 1 [[.fn 141 [.bp 90 0,.bp 91 0,.bp 92 0,.bp 93 0,.bp 94 0]]] none]),(95,[.rows 1 (rowRows (out++[hv])) (some [])]),(96,[.rows 1 (natRows hv) (some [])])],[90,91,92,93,94,95,96]⟩)
   (LeG.mk' rfl rfl rfl trivial (.ci 90 (.cons 91 rfl rfl (.refl _) (by rw [rowRows_len,rowRows_len] at *;rw [List.length_append];rfl) (.ci 92 (.ci 93 (.ci 94 (.cons 95 (b1:=.rows 1 (rowRows (out++[hv])) (some [])) rfl rfl (rowRows_lent rfl rfl (natRows_pr _ _)) rfl (.ci 96 .nil))))))) rfl rfl (by rw [hK];rfl)) ?_
  (refine gM ?_;conv=>whnf);exact retH rfl (.refl _) rfl rfl rfl ⟨rfl,rfl,rfl,rfl,rfl,rfl,rfl,rfl,rfl,rfl,rfl,rfl,rfl,rfl,trivial⟩
 | k+1,hv,rest,out,hne,hlen,hrl,hc,hn,hout=>by
  have ih:=visit_spec h k;have hpos:0<hv.length:=List.length_pos_iff.2 hne;obtain ⟨j,hj⟩:∃ j,hv.length=j+1:=⟨hv.length-1,by omega⟩
  have hpl:=plan_rows l p;have h4:=(valid_path h).2.1;have hpar:=parI_le p (i:=j) (by omega);have hsf:=pathB_step (valid_path h).2.2 (show j<p.steps.length by omega);have hx1:=plan_row (l:=l) (p:=p) (i:=hv.length) (by omega);have hx2:=plan_row (l:=l) (p:=p) (i:=parI p j) (by omega);have hby:=byD_get (l:=l) (p:=p) (k:=p.steps.length+1) (i:=hv.length) hpos (by omega) (by omega);have hbl:=byD_len l p (p.steps.length+1);have hfr:frN l p (j+1)<(tabN l p (parI p j)).cols.length:=by
   have ht1:=par_tab (l:=l) (show j<p.steps.length by omega) hsf.old p.steps.length;have:=hsf.fc;show (stpAt p j).fc.toNat<_;rw [show tabN l p (parI p j)=tabOf l (stpAt p j).ft from ht1];omega
  have hpn:=hn (parI p j) (by omega);have hpl2:=hc.lt (parI p j) (by omega);have hrow:(natRows (hv++rest))[parI p j]?=some [.int .i64 ((hv.getD (parI p j) 0:Nat):Int)]:=by
   have h1:parI p j<hv.length:=by omega
   unfold natRows;rw [List.getElem?_map,List.getElem?_append_left h1,List.getD_eq_getElem?_getD,List.getElem?_eq_getElem h1];rfl
  have hnl:=natRows_len (hv++rest);have hrl2:(hv++rest).length=p.steps.length+1:=by rw [List.length_append];omega
  have spC:=column_spec (tabN l p (parI p j)) (frN l p (j+1)) hfr;have hvr:=(validB_rows (tabN_ok h (i:=parI p j) (by omega))).2 _ (List.getElem_mem hfr);have hcg:=cellRows_get (l:=((tabN l p (parI p j)).cols[frN l p (j+1)]).cells) (i:=hv.getD (parI p j) 0) (by omega);have hce:((tabN l p (parI p j)).cols[frN l p (j+1)]).cells[hv.getD (parI p j) 0]'(by omega)=parC l p hv hv.length:=by
   unfold parC cellT;rw [hj,Nat.add_sub_cancel];have hlt:hv.getD (parI p j) 0<((tabN l p (parI p j)).cols[frN l p (j+1)]).cells.length:=by omega
   rw [List.getD_eq_getElem?_getD (l:=(tabN l p (parI p j)).cols),List.getElem?_eq_getElem hfr];simp only [Option.getD_some];rw [List.getD_eq_getElem?_getD (l:=((tabN l p (parI p j)).cols[frN l p (j+1)]).cells),List.getElem?_eq_getElem hlt];rfl
  rw [hce] at hcg;clear hce;have hcl:=cellRows_len ((tabN l p (parI p j)).cols[frN l p (j+1)]).cells;generalize ((tabN l p (parI p j)).cols[frN l p (j+1)]).cells=cells at *;have hdl:=datE_look (bunN l p hv.length (rowsN (tabN l p hv.length))) (parC l p hv hv.length).text;have hlb:=bunN_look l p hv.length (rowsN (tabN l p hv.length)) (parC l p hv hv.length).text;have hvis:visL l p (k+1) hv=(byL l p hv.length (parC l p hv hv.length).text (rowsN (tabN l p hv.length))).flatMap fun y=>visL l p k (hv++[y]):=rfl;have hres:restA l p (k+1) hv rest=(byL l p hv.length (parC l p hv hv.length).text (rowsN (tabN l p hv.length))).foldl (fun r y=>y::restA l p k (hv++[y]) r.tail) rest:=rfl;rw [hvis] at hout ⊢;rw [hres];have hmem:∀ y∈byL l p hv.length (parC l p hv hv.length).text (rowsN (tabN l p hv.length)),y<rowsN (tabN l p hv.length)∧stepFits l p j (hv.getD (parI p j) 0) y=true∧cntI l p hv.length y≠0:=fun y hy=>by
   unfold byL at hy;rw [List.mem_filter,List.mem_range] at hy;obtain ⟨hy1,ho⟩:=hy;have hnn:(parC l p hv hv.length).null=false:=by
    cases hb:(parC l p hv hv.length).null with
    | false=>rfl
    | true =>
     exfalso;have h1:=(cntI_ne (by omega) hpl2).1 hpn j (by omega) rfl;refine h1 (fitS_null ?_);have h2:=hb;unfold parC at h2;rw [show hv.length-1=j by omega,hj] at h2;exact h2
   unfold onB at ho;simp only [Bool.and_eq_true,Bool.not_eq_true',decide_eq_true_eq] at ho;refine ⟨hy1,?_,by omega⟩;have hst:stepFits l p j (hv.getD (parI p j) 0) y=fitC (parC l p hv hv.length) (cellT (tabN l p hv.length) (ownN l p hv.length) y):=by
    unfold stepFits parC;rw [show hv.length-1=j by omega,hj]
   rw [hst];unfold fitC;rw [hnn,ho.1,ho.2.1];simp
  rw [hlb] at hdl;generalize byL l p hv.length (parC l p hv hv.length).text (rowsN (tabN l p hv.length))=ys at *;obtain ⟨r,hr1,hr2⟩:=hdl;unfold visH;have hpos2:(nodeAt l p p.steps.length hv.length).par=((parI p j:Nat):Int)∧(nodeAt l p p.steps.length hv.length).fr=frN l p (j+1)∧(nodeAt l p p.steps.length (parI p j)).t=tabN l p (parI p j):=by
   rw [hj];exact ⟨rfl,rfl,rfl⟩
  obtain ⟨q1,q2,q3⟩:=hpos2;generalize nodeAt l p p.steps.length hv.length=nd at *;unfold Nod.rowW at hx1 hx2;rw [q1,q2] at hx1;rw [q3] at hx2;refine gEn env Tryz.func141 fun Γ hN hK hML=>?_;refine gGo ?_;intros;refine rowAt_of (by simpa using hx1) ?_;(conv=>whnf);refine gGo ?_;refine rowAt_of (by simpa using hby) ?_;(conv=>whnf);refine gGo ?_;refine rowAt_of (by simpa using hx2) ?_;(conv=>whnf);refine gGo ?_;(refine ⟨_,_,_,callG [] [] [] rfl rfl rfl (by kernel_rfl) (spC) (by refine ⟨Lent.row ?_,Lent.refl _,trivial⟩;repeat' (first | exact trivial | exact ⟨Lent.refl _,rfl⟩ | exact ⟨Lent.dead _,rfl⟩ | apply And.intro)) rfl ⟨rfl,rfl,rfl,rfl,rfl,by repeat' (first | exact trivial | rfl | apply And.intro),rfl,rfl⟩,?_⟩;conv=>whnf);refine g ?_;refine zok_intro (by kernel_rfl) ?_;(conv=>whnf);refine ⟨_,rfl,_,hr1,?_⟩;obtain ⟨O,hO⟩:∃ O:Nat→List (List Nat),O=fun q=>out++(ys.take q).flatMap fun y=>visL l p k (hv++[y]):=⟨_,rfl⟩
  obtain ⟨R,hR⟩:∃ R:Nat→List Nat,R=fun q=>(ys.take q).foldl (fun r y=>y::restA l p k (hv++[y]) r.tail) rest:=⟨_,rfl⟩
  have hO0:O 0=out:=by rw [hO];simp
  have hR0:R 0=rest:=by rw [hR];rfl
  have hOs:∀ (q:Nat) (hq:q<ys.length),O (q+1)=O q++visL l p k (hv++[ys[q]]):=fun q hq=>by
   rw [hO];simp only [List.take_succ_eq_append_getElem hq,List.flatMap_append,List.append_assoc];simp
  have hRs:∀ (q:Nat) (hq:q<ys.length),R (q+1)=ys[q]::restA l p k (hv++[ys[q]]) (R q).tail:=fun q hq=>by
   rw [hR];simp only [List.take_succ_eq_append_getElem hq,List.foldl_append,List.foldl_cons,List.foldl_nil]
  have hOe:O ys.length=out++ys.flatMap fun y=>visL l p k (hv++[y]):=by rw [hO];simp
  have hRe:R ys.length=ys.foldl (fun r y=>y::restA l p k (hv++[y]) r.tail) rest:=by rw [hR];simp
  have hRl:∀ q,q≤ys.length→(R q).length=k+1:=fun q=>by
   induction q with
   | zero=>intro _;rw [hR0];exact hrl
   | succ q ih2 =>
    intro hq;rw [hRs q (by omega),List.length_cons,restA_len l p k _ _ (by rw [List.length_tail,ih2 (by omega)];rfl)]
  have hOl:∀ q,q≤ys.length→(O q).length≤4096:=fun q hq=>by
   rw [hO];simp only;have h1:ys.flatMap (fun y=>visL l p k (hv++[y]))=(ys.take q).flatMap (fun y=>visL l p k (hv++[y]))++(ys.drop q).flatMap fun y=>visL l p k (hv++[y]):=by
    rw [←List.flatMap_append,List.take_append_drop]
   rw [h1,List.length_append] at hout;rw [List.length_append];omega
  rw [←hOe,←hRe];rw [show out=O 0 from hO0.symm,show rest=R 0 from hR0.symm] at *;have hyl:=natRows_len ys;clear hO hR hO0 hR0 hOe hRe hvis hres;rcases hr2 with ⟨hix,rfl⟩ | ⟨jj,hix,rfl⟩
  ·have hys:ys=[]:=by rw [←hlb];exact lookB_none hix
   have hy0:ys.length≤5:=by rw [hys];decide
   (conv=>whnf);refine gGo ?_;refine W.leG (mp:=[(90,90),(91,91),(92,92),(93,93),(94,94),(95,95),(96,96)]) (bo:=[]) (st':=⟨[(0,.int .i64 (hv.length:Nat)),(1,.bp 90 0),(2,.bp 91 0),(3,.bp 92 0),(4,.bp 93 0),(5,.bp 94 0),(52,.sl (natRows ys) false),(53,.int .i64 (natRows ys).length),(54,.int .i64 (0:Nat))],[(90,[.rows 1 [[.ro (planR l p) 0]] none]),(91,[.rows 1 [[.osl 95 0 0 (rowRows (O 0)).length (rowRows (O 0)).length]] none]),(92,[.rows 1 [[.osl 96 0 0 (natRows (hv++R 0)).length (natRows (hv++R 0)).length]] none]),(93,[.rows 1 [[.sl (byD l p (p.steps.length+1)) false]] none]),(94,[.rows 1 [[.fn 141 [.bp 90 0,.bp 91 0,.bp 92 0,.bp 93 0,.bp 94 0]]] none]),(95,[.rows 1 (rowRows (O 0)) (some [])]),(96,[.rows 1 (natRows (hv++R 0)) (some [])])],[90,91,92,93,94,95,96]⟩)
    (LeG.mk' rfl rfl rfl (by rw [hys];exact ⟨⟨_,.refl _,rfl⟩,⟨_,.refl _,rfl⟩,⟨_,.refl _,rfl⟩,⟨_,.refl _,rfl⟩,⟨_,.refl _,rfl⟩,⟨_,.refl _,rfl⟩,⟨_,.norm _,rfl⟩,⟨_,.refl _,rfl⟩,⟨_,.refl _,rfl⟩,trivial⟩) (.ci 90 (.ci 91 (.ci 92 (.ci 93 (.ci 94 (.ci 95 (.ci 96 .nil))))))) rfl rfl (by rw [hK];rfl)) ?_
   refine W.loopG (fun m st=>∃ q:Nat,q≤ys.length∧m=ys.length-q∧st=⟨[(0,.int .i64 (hv.length:Nat)),(1,.bp 90 0),(2,.bp 91 0),(3,.bp 92 0),(4,.bp 93 0),(5,.bp 94 0),(52,.sl (natRows ys) false),(53,.int .i64 (natRows ys).length),(54,.int .i64 q)],[(90,[.rows 1 [[.ro (planR l p) 0]] none]),(91,[.rows 1 [[.osl 95 0 0 (rowRows (O q)).length (rowRows (O q)).length]] none]),(92,[.rows 1 [[.osl 96 0 0 (natRows (hv++R q)).length (natRows (hv++R q)).length]] none]),(93,[.rows 1 [[.sl (byD l p (p.steps.length+1)) false]] none]),(94,[.rows 1 [[.fn 141 [.bp 90 0,.bp 91 0,.bp 92 0,.bp 93 0,.bp 94 0]]] none]),(95,[.rows 1 (rowRows (O q)) (some [])]),(96,[.rows 1 (natRows (hv++R q)) (some [])])],[90,91,92,93,94,95,96]⟩)
    ys.length _ ⟨0,by omega,by omega,rfl⟩ gX ?_
   rintro m st ⟨q,hq,rfl,rfl⟩;have hrow2:=natRows_len (hv++R q);have hRq:=hRl q hq;have hrl3:(hv++R q).length=p.steps.length+1:=by rw [List.length_append];omega
   refine gT (fun hb=>?_) fun hb=>?_
   ·have hlt:q<ys.length:=by omega
    have hyg:=natRows_get hlt;have hym:=hmem _ (List.getElem_mem hlt);have hos:=hOs q hlt;have hrs:=hRs q hlt;have hol:=hOl q hq;have hol1:=hOl (q+1) (by omega);rw [hos,List.length_append] at hol1;have hset:(natRows (hv++R q)).set hv.length [.int .i64 ((ys[q]:Nat):Int)]=natRows ((hv++[ys[q]])++(R q).tail):=by
     cases hRc:R q with
     | nil=>rw [hRc] at hRq;simp at hRq
     | cons z zs=>simp [natRows]
    obtain ⟨z,hgi⟩:∃ z:Int,(natRows (hv++R q))[hv.length]?=some [.int .i64 z]:=by
     have h1:hv.length<(hv++R q).length:=by omega
     exact ⟨_,natRows_get h1⟩
    have hsp:=ih (hv++[ys[q]]) (R q).tail (O q) (by simp) (by rw [List.length_append,List.length_singleton];omega) (by rw [List.length_tail];omega) (combK_snoc hj (by omega) hc hym.1 hym.2.1) (fun i hi=>by
     by_cases e:i=hv.length
     ·subst e;rw [getD_last];exact hym.2.2
     ·have hi2:i<hv.length:=by rw [List.length_append,List.length_singleton] at hi;omega
      rw [getD_app hi2];exact hn i hi2) hol1
    have hcast:(((hv++[ys[q]]).length:Nat):Int)=(hv.length:Int)+1:=by rw [List.length_append];rfl
    rw [hcast] at hsp;rw [←hos,show (hv++[ys[q]])++restA l p k (hv++[ys[q]]) (R q).tail=hv++R (q+1) by rw [hrs];simp] at hsp;have hnl3:=natRows_len ((hv++[ys[q]])++(R q).tail);have hrl4:((hv++[ys[q]])++(R q).tail).length=p.steps.length+1:=by rw [List.length_append,List.length_append,List.length_tail,List.length_singleton];omega
    have hnl4:=natRows_len (hv++R (q+1));have hrl5:(hv++R (q+1)).length=p.steps.length+1:=by rw [List.length_append,hRl (q+1) (by omega)];omega
    have hle:(natRows ((hv++[ys[q]])++(R q).tail)).length=(natRows (hv++R q)).length:=by omega
    unfold visH at hsp;generalize hrw:(hv++[ys[q]])++(R q).tail=row1 at *;generalize ys[q]=y at *;refine gGo ?_;refine rowAt_of (by simpa using hyg) ?_;(conv=>whnf);refine gGs ?_;refine gA ?_;(refine gE env hN (by kernel_rfl) ?_;conv=>whnf);refine gGs ?_;refine rowAt_of (by simpa using hgi) ?_;(conv=>whnf);refine gGs ?_;refine W.leG (mp:=[(90,90),(91,91),(92,92),(93,93),(94,94),(95,95),(96,96)]) (bo:=[]) (st':=⟨[(0,.int .i64 (hv.length:Nat)),(1,.bp 90 0),(2,.bp 91 0),(3,.bp 92 0),(4,.bp 93 0),(5,.bp 94 0),(52,.sl (natRows ys) false),(53,.int .i64 (natRows ys).length),(54,.int .i64 q)],[(90,[.rows 1 [[.ro (planR l p) 0]] none]),(91,[.rows 1 [[.osl 95 0 0 (rowRows (O q)).length (rowRows (O q)).length]] none]),(92,[.rows 1 [[.osl 96 0 0 (natRows row1).length (natRows row1).length]] none]),(93,[.rows 1 [[.sl (byD l p (p.steps.length+1)) false]] none]),(94,[.rows 1 [[.fn 141 [.bp 90 0,.bp 91 0,.bp 92 0,.bp 93 0,.bp 94 0]]] none]),(95,[.rows 1 (rowRows (O q)) (some [])]),(96,[.rows 1 (natRows row1) (some [])])],[90,91,92,93,94,95,96]⟩)
     (LeG.mq (.ci 90 (.ci 91 (.cons 92 rfl rfl (.refl _) (by rw [hle];rfl) (.ci 93 (.ci 94 (.ci 95 (.cons 96 rfl rfl (.refl _) (by rw [←hset,show (0+((hv.length:Nat):Int).toNat)=hv.length by simp];rfl) .nil)))))))) ?_
    refine gGo ?_;(refine gCA [(90,90),(91,91),(92,92),(93,93),(94,94),(95,95),(96,96)] [] [] (hsp) ?_;conv=>whnf);refine gGo ?_;refine ⟨_,_,?_,⟨q+1,by omega,rfl,rfl⟩,[(90,90),(91,91),(92,92),(93,93),(94,94),(95,95),(96,96)],[],[],.mq (.ci 90 (.ci 91 (.ci 92 (.ci 93 (.ci 94 (.ci 95 (.ci 96 .nil))))))) ⟩;omega
   ·have hqe:q=ys.length:=by omega
    rw [hqe];refine gGo ?_;exact retHn rfl (.refl _) rfl rfl rfl ⟨rfl,rfl,rfl,rfl,rfl,rfl,rfl,rfl,rfl,rfl,rfl,rfl,rfl,rfl,trivial⟩
  ·(conv=>whnf);refine gGo ?_;intros;refine W.loopG (fun m st=>∃ q:Nat,q≤ys.length∧m=ys.length-q∧st=⟨[(0,.int .i64 (hv.length:Nat)),(1,.bp 90 0),(2,.bp 91 0),(3,.bp 92 0),(4,.bp 93 0),(5,.bp 94 0),(52,.sl (natRows ys) false),(53,.int .i64 (natRows ys).length),(54,.int .i64 q)],[(90,[.rows 1 [[.ro (planR l p) 0]] none]),(91,[.rows 1 [[.osl 95 0 0 (rowRows (O q)).length (rowRows (O q)).length]] none]),(92,[.rows 1 [[.osl 96 0 0 (natRows (hv++R q)).length (natRows (hv++R q)).length]] none]),(93,[.rows 1 [[.sl (byD l p (p.steps.length+1)) false]] none]),(94,[.rows 1 [[.fn 141 [.bp 90 0,.bp 91 0,.bp 92 0,.bp 93 0,.bp 94 0]]] none]),(95,[.rows 1 (rowRows (O q)) (some [])]),(96,[.rows 1 (natRows (hv++R q)) (some [])])],[90,91,92,93,94,95,96]⟩)
    ys.length _ ⟨0,by omega,by omega,rfl⟩ gX ?_
   rintro m st ⟨q,hq,rfl,rfl⟩;have hrow2:=natRows_len (hv++R q);have hRq:=hRl q hq;have hrl3:(hv++R q).length=p.steps.length+1:=by rw [List.length_append];omega
   refine gT (fun hb=>?_) fun hb=>?_
   ·have hlt:q<ys.length:=by omega
    have hyg:=natRows_get hlt;have hym:=hmem _ (List.getElem_mem hlt);have hos:=hOs q hlt;have hrs:=hRs q hlt;have hol:=hOl q hq;have hol1:=hOl (q+1) (by omega);rw [hos,List.length_append] at hol1;have hset:(natRows (hv++R q)).set hv.length [.int .i64 ((ys[q]:Nat):Int)]=natRows ((hv++[ys[q]])++(R q).tail):=by
     cases hRc:R q with
     | nil=>rw [hRc] at hRq;simp at hRq
     | cons z zs=>simp [natRows]
    obtain ⟨z,hgi⟩:∃ z:Int,(natRows (hv++R q))[hv.length]?=some [.int .i64 z]:=by
     have h1:hv.length<(hv++R q).length:=by omega
     exact ⟨_,natRows_get h1⟩
    have hsp:=ih (hv++[ys[q]]) (R q).tail (O q) (by simp) (by rw [List.length_append,List.length_singleton];omega) (by rw [List.length_tail];omega) (combK_snoc hj (by omega) hc hym.1 hym.2.1) (fun i hi=>by
     by_cases e:i=hv.length
     ·subst e;rw [getD_last];exact hym.2.2
     ·have hi2:i<hv.length:=by rw [List.length_append,List.length_singleton] at hi;omega
      rw [getD_app hi2];exact hn i hi2) hol1
    have hcast:(((hv++[ys[q]]).length:Nat):Int)=(hv.length:Int)+1:=by rw [List.length_append];rfl
    rw [hcast] at hsp;rw [←hos,show (hv++[ys[q]])++restA l p k (hv++[ys[q]]) (R q).tail=hv++R (q+1) by rw [hrs];simp] at hsp;have hnl3:=natRows_len ((hv++[ys[q]])++(R q).tail);have hrl4:((hv++[ys[q]])++(R q).tail).length=p.steps.length+1:=by rw [List.length_append,List.length_append,List.length_tail,List.length_singleton];omega
    have hnl4:=natRows_len (hv++R (q+1));have hrl5:(hv++R (q+1)).length=p.steps.length+1:=by rw [List.length_append,hRl (q+1) (by omega)];omega
    have hle:(natRows ((hv++[ys[q]])++(R q).tail)).length=(natRows (hv++R q)).length:=by omega
    unfold visH at hsp;generalize hrw:(hv++[ys[q]])++(R q).tail=row1 at *;generalize ys[q]=y at *;refine gGo ?_;refine rowAt_of (by simpa using hyg) ?_;(conv=>whnf);refine gGs ?_;refine gA ?_;(refine gE env hN (by kernel_rfl) ?_;conv=>whnf);refine gGs ?_;refine rowAt_of (by simpa using hgi) ?_;(conv=>whnf);refine gGs ?_;refine W.leG (mp:=[(90,90),(91,91),(92,92),(93,93),(94,94),(95,95),(96,96)]) (bo:=[]) (st':=⟨[(0,.int .i64 (hv.length:Nat)),(1,.bp 90 0),(2,.bp 91 0),(3,.bp 92 0),(4,.bp 93 0),(5,.bp 94 0),(52,.sl (natRows ys) false),(53,.int .i64 (natRows ys).length),(54,.int .i64 q)],[(90,[.rows 1 [[.ro (planR l p) 0]] none]),(91,[.rows 1 [[.osl 95 0 0 (rowRows (O q)).length (rowRows (O q)).length]] none]),(92,[.rows 1 [[.osl 96 0 0 (natRows row1).length (natRows row1).length]] none]),(93,[.rows 1 [[.sl (byD l p (p.steps.length+1)) false]] none]),(94,[.rows 1 [[.fn 141 [.bp 90 0,.bp 91 0,.bp 92 0,.bp 93 0,.bp 94 0]]] none]),(95,[.rows 1 (rowRows (O q)) (some [])]),(96,[.rows 1 (natRows row1) (some [])])],[90,91,92,93,94,95,96]⟩)
     (LeG.mq (.ci 90 (.ci 91 (.cons 92 rfl rfl (.refl _) (by rw [hle];rfl) (.ci 93 (.ci 94 (.ci 95 (.cons 96 rfl rfl (.refl _) (by rw [←hset,show (0+((hv.length:Nat):Int).toNat)=hv.length by simp];rfl) .nil)))))))) ?_
    refine gGo ?_;(refine gCA [(90,90),(91,91),(92,92),(93,93),(94,94),(95,95),(96,96)] [] [] (hsp) ?_;conv=>whnf);refine gGo ?_;refine ⟨_,_,?_,⟨q+1,by omega,rfl,rfl⟩,[(90,90),(91,91),(92,92),(93,93),(94,94),(95,95),(96,96)],[],[],.mq (.ci 90 (.ci 91 (.ci 92 (.ci 93 (.ci 94 (.ci 95 (.ci 96 .nil))))))) ⟩;omega
   ·have hqe:q=ys.length:=by omega
    rw [hqe];refine gGo ?_;exact retHn rfl (.refl _) rfl rfl rfl ⟨rfl,rfl,rfl,rfl,rfl,rfl,rfl,rfl,rfl,rfl,rfl,rfl,rfl,rfl,trivial⟩
theorem byD_zero (l:List Table) (p:Pth) (k:Nat) (hk:k≤1):byD l p k=List.replicate (p.steps.length+1) [.nilm]:=by
 unfold byD;apply List.ext_getElem?;intro q;rw [List.getElem?_replicate,List.getElem?_map];by_cases h:q<p.steps.length+1
 ·rw [if_pos h,List.getElem?_range h];simp only [Option.map_some];rw [if_neg (by omega)]
 ·rw [if_neg h,List.getElem?_eq_none (by simp;omega)];rfl
theorem byD_at {l:List Table}{p:Pth}{k i:Nat}(h:i<p.steps.length+1):(byD l p k)[i]?=some (if 0<i∧i<k then [.dmap (mkD (datE (bunN l p i (rowsN (tabN l p i)))))] else [.nilm]):=by
 unfold byD;rw [List.getElem?_map,List.getElem?_range h];rfl
theorem byD_pure {l:List Table}{p:Pth}{k i j:Nat}{r:List V}{v:V}(hi:(byD l p k)[i]?=some r) (hj:r[j]?=some v):v.sites=[]∧v.one=true∧j=0:=by
 have hlt:=(List.getElem?_eq_some_iff.1 hi).1;rw [byD_len] at hlt;rw [byD_at hlt] at hi;cases hi;split at hj
 all_goals
  cases j with
  | zero=>cases hj;exact ⟨rfl,rfl,rfl⟩
  | succ j=>simp at hj
theorem by_gat {l:List Table}{p:Pth}{k i n d:Nat}{ks:Option (List Nat)}(hd:34≠d):BGat d 200 n (.rows 1 ((byD l p k).set i [.omap 34 0]) ks) (.rows 1 ((byD l p k).set i [.omap 34 0]) (some [34])):=by
 refine .rows 1 _ _ _ _ rfl fun j r1 hj=>⟨r1,hj,?_,fun l' hl v hv s hs=>?_⟩
 ·rw [List.getElem?_set] at hj;split at hj
  ·split at hj
   ·cases hj;simp [gatL,V.gat,hd]
   ·cases hj
  ·refine (gatL_pure _ ?_).symm;rw [sitesL_eq,List.flatMap_eq_nil_iff];intro v hv;obtain ⟨q,hq⟩:=List.getElem?_of_mem hv;exact (byD_pure hj hq).1
 ·cases hl;rw [List.getElem?_set] at hj;split at hj
  ·split at hj
   ·cases hj;rw [List.mem_singleton.1 hv] at hs;simpa [V.sites] using hs
   ·cases hj
  ·obtain ⟨q,hq⟩:=List.getElem?_of_mem hv;rw [(byD_pure hj hq).1] at hs;cases hs
theorem by_lent {H:Nat→List Blk}{bo:List Nat}{l:List Table}{p:Pth}{i c:Nat}{ks ks2:Option (List Nat)}(hi:i<p.steps.length) (hb:memB 34 bo=true) (hq:H 34=[.map (datE (bunN l p (i+1) (rowsN (tabN l p (i+1))))) c ks2]) :
  BLent H bo (.rows 1 ((byD l p (i+1)).set (i+1) [.omap 34 0]) ks) (.rows 1 (byD l p (i+2)) (some [])):=by
 refine .rowsF _ _ _ _ (by rw [List.length_set,byD_len,byD_len]) fun j r1 hj=>?_;have hlt:=(List.getElem?_eq_some_iff.1 hj).1;rw [byD_len] at hlt;have hj0:=hj;rw [byD_at hlt] at hj;rw [List.getElem?_set,byD_len,byD_at hlt];by_cases e:i+1=j
 ·subst e;rw [if_pos (by omega)] at hj;cases hj;rw [if_pos rfl,if_pos hlt];refine ⟨[.omap 34 0],rfl,rfl,fun q v1 hv=>?_⟩;cases q with
  | succ q=>simp at hv
  | zero =>
   cases hv;exact ⟨.omap 34 0,rfl,.omapF 34 0 _ c ks2 hb (by rw [hq];rfl) (datE_pure _ _),rfl,rfl⟩
 ·rw [if_neg e];have e2:(if 0<j∧j<i+1 then [V.dmap (mkD (datE (bunN l p j (rowsN (tabN l p j)))))] else [.nilm])=r1:=by
   rw [←Option.some.inj hj];by_cases h1:0<j∧j<i+1
   ·rw [if_pos h1,if_pos (by omega)]
   ·rw [if_neg h1,if_neg (by omega)]
  rw [e2];exact ⟨r1,rfl,rfl,fun q v1 hv=>⟨v1,hv,.refl _,(byD_pure hj0 hv).2.1,(byD_pure hj0 hv).1⟩⟩
theorem nodRows_sz (R:List Nod):rowsSz (nodRows R) 9:=by
 unfold rowsSz nodRows;intro r hr;obtain ⟨c,_,rfl⟩:=List.mem_map.1 hr;rfl
theorem bunN_snoc (l:List Table) (p:Pth) (i n:Nat):bunN l p i (n+1)=if (!(cellT (tabN l p i) (ownN l p i) n).null&&decide (0<cntI l p i n))=true then addB (bunN l p i n) (cellT (tabN l p i) (ownN l p i) n).text n else bunN l p i n:=rfl
set_option maxHeartbeats 32000000 in
theorem rowsW_spec {l:List Table}{p:Pth}(h:validE l p=0) (htot:(rowsL l p).length≤4096):Spec Tryz.prog 92 [.ro (planR l p) 0] [] (.osl 95 0 0 (rowRows (rowsL l p)).length (rowRows (rowsL l p)).length) [(95,.rows 1 (rowRows (rowsL l p)) (some []))]:=by
 have hpl:=plan_rows l p;have h4:=(valid_path h).2.1;have hbz:=byD_zero l p 1 (by omega);have hdl:((nodRows (planN l p)).drop 1).length=p.steps.length:=by rw [List.length_drop];omega
 refine gEn env Tryz.func92 fun Γ hN hK hML=>?_;refine gGo ?_;intros;refine And.intro ⟨by omega,by omega,(by show (((nodRows (planN l p)).length:Nat):Int)*8≤_;omega),by omega⟩ ?_;rw [Int.toNat_natCast];(conv=>whnf);refine gGo ?_;refine And.intro (nodRows_sz _) ?_;rw [Int.toNat_natCast,List.take_length];(conv=>whnf);refine gGo ?_;intros;obtain ⟨N,hNN⟩:∃ N,N=(nodRows (planN l p)).length:=⟨_,rfl⟩
 refine W.loopG (fun m st=>∃ i:Nat,i≤p.steps.length∧m=p.steps.length-i∧st=⟨[(1,.bp 1 0),(3,.bp 3 0),(24,.sl ((nodRows (planN l p)).drop 1) false),(25,.int .i64 (((nodRows (planN l p)).drop 1).length:Nat)),(26,.int .i64 i)],[(1,[.rows 1 [[.ro (planR l p) 0]] none]),(3,[.rows 1 [[.osl 19 0 0 N N]] none]),(19,[.rows 1 (byD l p (i+1)) (some [])])],[1,3,19]⟩)
  p.steps.length _ ⟨0,by omega,by omega,rfl⟩ ⟨[(1,1),(3,3),(19,19)],[],[],.mq (.ci 1 (.cons 3 rfl rfl (.refl _) (by rw [hNN];rfl) (.cons 19 rfl rfl (.refl _) (by rw [show byD l p (0+1)=byD l p 1 from rfl,hbz,←hpl];rfl) .nil)))⟩ ?_
 rintro m st ⟨i,hi,rfl,rfl⟩;have hbl:=byD_len l p (i+1);refine gT (fun hb=>?_) fun hb=>?_
 ·have hlt:i<p.steps.length:=by omega
  have hx:((nodRows (planN l p)).drop 1)[i]?=some ((nodeAt l p p.steps.length (i+1)).rowW (.sl (natRows (kidsL p p.steps.length (i+1))) false) (.sl (intRows .i64 (cntsN l p (i+1))) false) (.dmap (mkD (sumE (talsN l p (i+1)))))):=by
   rw [List.getElem?_drop,show 1+i=i+1 by omega];exact plan_row (by omega)
  have hby:=byD_at (l:=l) (p:=p) (k:=i+1) (i:=i+1) (by omega);rw [if_neg (by omega)] at hby;have hcl:=intRows_len .i64 (cntsN l p (i+1));rw [cntsN_len] at hcl;change _=rowsN (tabN l p (i+1)) at hcl;have hr4:=(validB_rows (tabN_ok h (i:=i+1) (by omega))).1;have hcg:∀ y,y<rowsN (tabN l p (i+1))→(intRows .i64 (cntsN l p (i+1)))[y]?=some [.int .i64 (cntI l p (i+1) y)]:=fun y hy=>cntsN_get hy;have hsf:=pathB_step (valid_path h).2.2 hlt;have hown:ownN l p (i+1)<(tabN l p (i+1)).cols.length:=by
   have:=hsf.tc;show (stpAt p i).tc.toNat<_;rw [show tabN l p (i+1)=tabOf l (stpAt p i).tt from rfl];omega
  have spC:=column_spec (tabN l p (i+1)) (ownN l p (i+1)) hown;have hvr:=(validB_rows (tabN_ok h (i:=i+1) (by omega))).2 _ (List.getElem_mem hown);have hcc:∀ y,y<rowsN (tabN l p (i+1))→(cellRows ((tabN l p (i+1)).cols[ownN l p (i+1)]).cells)[y]?=some (cellT (tabN l p (i+1)) (ownN l p (i+1)) y).row:=fun y hy=>by
   rw [cellRows_get (by omega)];unfold cellT;have hlt2:y<((tabN l p (i+1)).cols[ownN l p (i+1)]).cells.length:=by omega
   rw [List.getD_eq_getElem?_getD (l:=(tabN l p (i+1)).cols),List.getElem?_eq_getElem hown];simp only [Option.getD_some];rw [List.getD_eq_getElem?_getD (l:=((tabN l p (i+1)).cols[ownN l p (i+1)]).cells),List.getElem?_eq_getElem hlt2];rfl
  have hcel:=cellRows_len ((tabN l p (i+1)).cols[ownN l p (i+1)]).cells;generalize ((tabN l p (i+1)).cols[ownN l p (i+1)]).cells=cells at *;have ht:(nodeAt l p p.steps.length (i+1)).t=tabN l p (i+1):=rfl;have ho:(nodeAt l p p.steps.length (i+1)).own=ownN l p (i+1):=rfl;generalize nodeAt l p p.steps.length (i+1)=nd at *;unfold Nod.rowW at hx;rw [ht,ho] at hx;generalize intRows .i64 (cntsN l p (i+1))=cs at *;have hsnoc:=fun n=>bunN_snoc l p (i+1) n;have hlook:=fun n s=>bunN_look l p (i+1) n s;have hblen:∀ n,(bunN l p (i+1) n).length≤n:=fun n=>bunS_len _ _ n;have hlble:∀ n s,(lookB (bunN l p (i+1) n) s).length≤n:=fun n s=>lookB_le _ _ _ _;have hset:((byD l p (i+1)).set (i+1) [.omap 34 0]).length=N:=by rw [List.length_set];omega
  have hsetg:((byD l p (i+1)).set (i+1) [.omap 34 0])[i+1]?=some [.omap 34 0]:=by rw [List.getElem?_set,if_pos rfl,if_pos (by omega)]
  have hbun0:bunN l p (i+1) 0=[]:=rfl;(refine g ?_;intros);refine W.ref (Ref.reserve 200 2 1 rfl) ?_;refine W.ref (Ref.rekm 34 [200] rfl (fun i b k v hi=>by simp at hi) (fun q hq=>by simp at hq;subst hq;rfl)) ?_;refine W.leG (mp:=[(1,1),(3,3),(19,19),(5,5),(34,34),(200,200)]) (bo:=[]) (st':=⟨[(1,.bp 1 0),(3,.bp 3 0),(24,.sl ((nodRows (planN l p)).drop 1) false),(25,.int .i64 (((nodRows (planN l p)).drop 1).length:Nat)),(26,.int .i64 i),(4,.int .i64 i),(5,.bp 5 0),(37,.sl cs false),(38,.int .i64 cs.length),(39,.int .i64 (0:Nat))],[(1,[.rows 1 [[.ro (planR l p) 0]] none]),(3,[.rows 1 [[.osl 19 0 0 N N]] none]),(19,[.rows 1 ((byD l p (i+1)).set (i+1) [.omap 34 0]) (some [34])]),(5,[.rows 9 [[.int .i64 (tabN l p (i+1)).id,.str (tabN l p (i+1)).name,.sl (colRows (tabN l p (i+1)).cols) false,.int .i64 nd.par,.int .i64 nd.fr,.int .i64 (ownN l p (i+1)),.sl (natRows (kidsL p p.steps.length (i+1))) false,.sl cs false,.dmap (mkD (sumE (talsN l p (i+1))))]] none]),(34,[.map (ownE 200 (([]:Bun))) (([]:Bun)).length (some [200])]),(200,ownF [])],[1,3,19,5,34,200]⟩)
   (LeG.mq (.ci 1 (.ci 3 (.cons 19 rfl rfl (.refl _) ?_ (.ci 5 (.ci 34 (.fam 200 rfl (by show _=famL 2 _;unfold famL;rfl) (ownF_fam _) .nil))))))) ?_
  ·rw [show (0+((i:Int)+1).toNat)=i+1 by omega];rfl
  refine W.loopG (fun m st=>∃ y:Nat,y≤rowsN (tabN l p (i+1))∧m=rowsN (tabN l p (i+1))-y∧st=⟨[(1,.bp 1 0),(3,.bp 3 0),(24,.sl ((nodRows (planN l p)).drop 1) false),(25,.int .i64 (((nodRows (planN l p)).drop 1).length:Nat)),(26,.int .i64 i),(4,.int .i64 i),(5,.bp 5 0),(37,.sl cs false),(38,.int .i64 cs.length),(39,.int .i64 y)],[(1,[.rows 1 [[.ro (planR l p) 0]] none]),(3,[.rows 1 [[.osl 19 0 0 N N]] none]),(19,[.rows 1 ((byD l p (i+1)).set (i+1) [.omap 34 0]) (some [34])]),(5,[.rows 9 [[.int .i64 (tabN l p (i+1)).id,.str (tabN l p (i+1)).name,.sl (colRows (tabN l p (i+1)).cols) false,.int .i64 nd.par,.int .i64 nd.fr,.int .i64 (ownN l p (i+1)),.sl (natRows (kidsL p p.steps.length (i+1))) false,.sl cs false,.dmap (mkD (sumE (talsN l p (i+1))))]] none]),(34,[.map (ownE 200 (bunN l p (i+1) y)) (bunN l p (i+1) y).length (some [200])]),(200,ownF (bunN l p (i+1) y))],[1,3,19,5,34,200]⟩)
   (rowsN (tabN l p (i+1))) _ ⟨0,by omega,by omega,rfl⟩ ⟨[(1,1),(3,3),(19,19),(5,5),(34,34),(200,200)],[],[],.mq (.ci 1 (.ci 3 (.ci 19 (.ci 5 (.cons 34 rfl rfl (.refl _) (rfl) (.fam 200 rfl (rfl) (ownF_fam _) .nil))))))⟩ ?_
  rintro m st ⟨y,hy,rfl,rfl⟩;refine gT (fun hb=>?_) fun hb=>?_
  ·have hyl:y<rowsN (tabN l p (i+1)):=by omega
   have hg1:=hcg y hyl;have hg2:=hcc y hyl;have hsn:=hsnoc y;have hlk:=hlble y (cellT (tabN l p (i+1)) (ownN l p (i+1)) y).text;have hbn:=hblen y;have hcb:=cntI_bound h (i:=i+1) (by omega) hyl;generalize bunN l p (i+1) y=T at *;generalize cellT (tabN l p (i+1)) (ownN l p (i+1)) y=x at *;generalize cntI l p (i+1) y=cnt at *;refine gGo ?_;refine rowAt_of (by simpa using hg1) ?_;(conv=>whnf);refine gGo ?_;(refine ⟨_,_,_,callG [] [] [] rfl rfl rfl (by kernel_rfl) (spC) (by refine ⟨Lent.row ?_,Lent.refl _,trivial⟩;repeat' (first | exact trivial | exact ⟨Lent.refl _,rfl⟩ | exact ⟨Lent.dead _,rfl⟩ | apply And.intro)) rfl ⟨rfl,rfl,rfl,rfl,rfl,by repeat' (first | exact trivial | rfl | apply And.intro),rfl,rfl⟩,?_⟩;conv=>whnf);refine g ?_;cases hnull:x.null with
   | true =>
    rw [if_neg (by rw [hnull];simp)] at hsn;(conv=>whnf);refine gGo ?_;refine ⟨_,_,?_,⟨y+1,by omega,rfl,rfl⟩,[(1,1),(3,3),(19,19),(5,5),(34,34),(200,200)],[],[],.mq (.ci 1 (.ci 3 (.ci 19 (.ci 5 (.cons 34 rfl rfl (.refl _) (by rw [hsn];rfl) (.fam 200 rfl (by rw [hsn];rfl) (ownF_fam _) .nil))))))⟩;omega
   | false =>
    rw [hnull,Bool.not_false,Bool.true_and] at hsn;(conv=>whnf);refine gGo ?_;by_cases hpos:0<cnt
    ·rw [decide_eq_true hpos,if_pos rfl] at hsn;refine gGo ?_;refine rowAt_of (by rw [show (0+((i:Int)+1).toNat)=i+1 by omega];exact hsetg) ?_;(conv=>whnf);refine gGo ?_;refine rowAt_of (by rw [show (0+((i:Int)+1).toNat)=i+1 by omega];exact hsetg) ?_;(conv=>whnf);refine gGo ?_;refine zok_intro (by kernel_rfl) ?_;(conv=>whnf);have ha:=ownE_at 200 T x.text;refine ⟨_,ha,?_⟩;cases hix:ixS x.text (keysT T) with
     | none =>
      rw [hix] at ha;have hgt:=fun ks=>ownE_gat (i:=y) (d:=75) (F:=200) (c1:=T.length+1) (by decide) hix rfl ks;have hfn:=ownF_new (i:=y) hix;have hfl:=ownF_len T;have hl1:(addB T x.text y).length=T.length+1:=by rw [addB_none hix];simp
      (conv=>whnf);refine gGo ?_;refine ⟨rowsSz_cons rfl rowsSz_nil,fitsN (n:=1) (b:=8) (by decide) (by decide),Or.inl ?_⟩;(conv=>whnf);refine gGo ?_;refine ⟨_,ha,?_⟩;(conv=>whnf);refine gGs ?_;refine W.ref (Ref.gather 75 200 (b:=.rows 1 [[.int .i64 y]] (some [])) (L:=ownF T) (hp:=[(1,[.rows 1 [[.ro (planR l p) 0]] none]),(3,[.rows 1 [[.osl 19 0 0 N N]] none]),(19,[.rows 1 ((byD l p (i+1)).set (i+1) [.omap 34 0]) (some [34])]),(5,[.rows 9 [[.int .i64 (tabN l p (i+1)).id,.str (tabN l p (i+1)).name,.sl (colRows (tabN l p (i+1)).cols) false,.int .i64 nd.par,.int .i64 nd.fr,.int .i64 (ownN l p (i+1)),.sl (natRows (kidsL p p.steps.length (i+1))) false,.sl cs false,.dmap (mkD (sumE (talsN l p (i+1))))]] none]),(34,[.map (ownE 200 (addB T x.text y)) (T.length+1) (some [200])])])
       (s':=⟨[(1,.bp 1 0),(3,.bp 3 0),(24,.sl ((nodRows (planN l p)).drop 1) false),(25,.int .i64 (((nodRows (planN l p)).drop 1).length:Nat)),(26,.int .i64 i),(4,.int .i64 i),(5,.bp 5 0),(37,.sl cs false),(38,.int .i64 cs.length),(39,.int .i64 y)],[(200,ownF T++[.rows 1 [[.int .i64 y]] (some [])]),(1,[.rows 1 [[.ro (planR l p) 0]] none]),(3,[.rows 1 [[.osl 19 0 0 N N]] none]),(19,[.rows 1 ((byD l p (i+1)).set (i+1) [.omap 34 0]) (some [34])]),(5,[.rows 9 [[.int .i64 (tabN l p (i+1)).id,.str (tabN l p (i+1)).name,.sl (colRows (tabN l p (i+1)).cols) false,.int .i64 nd.par,.int .i64 nd.fr,.int .i64 (ownN l p (i+1)),.sl (natRows (kidsL p p.steps.length (i+1))) false,.sl cs false,.dmap (mkD (sumE (talsN l p (i+1))))]] none]),(34,[.map (ownE 200 (addB T x.text y)) (T.length+1) (some [200])])],_⟩)
       rfl rfl rfl rfl rfl (ownF_fam _) rfl (by repeat' (first | exact trivial | apply And.intro | rfl))
       ⟨⟨rfl,rfl,_,_,rfl,rfl,one_gat rfl,rfl⟩,⟨rfl,rfl,_,_,rfl,rfl,one_gat rfl,rfl⟩,⟨rfl,rfl,_,_,rfl,rfl,by_gat (by decide),rfl⟩,⟨rfl,rfl,_,_,rfl,rfl,one_gat rfl,rfl⟩,⟨rfl,rfl,_,_,rfl,rfl,(by rw [hfl];exact hgt _),rfl⟩,trivial⟩ rfl (by rw [hK];rfl)) ?_
      refine gGo ?_;refine ⟨_,_,?_,⟨y+1,by omega,rfl,rfl⟩,[(1,1),(3,3),(19,19),(5,5),(34,34),(200,200)],[],[],.mq (.ci 1 (.ci 3 (.ci 19 (.ci 5 (.cons 34 rfl rfl (.refl _) (by rw [hsn,hl1];rfl) (.fam 200 rfl (by rw [hsn,←hfn];rfl) (ownF_fam _) .nil))))))⟩;omega
     | some q =>
      rw [hix] at ha;have hfk:=ownF_get (lookB_at hix);have hse:=fun n (hn:n=(lookB T x.text).length+1)=>ownE_set (F:=200) (i:=y) hix hn;have hsf:=ownF_set (i:=y) hix;have hnl:=natRows_len (lookB T x.text);have hl1:(addB T x.text y).length=T.length:=by rw [addB_some hix];simp
      (conv=>whnf);refine gGo ?_;generalize hO:oslRows _ 200 (q+2)=O;have hO2:O=some (1,natRows (lookB T x.text),some []):=by rw [←hO];exact oslRows_of hfk
      subst hO2;clear hO;(conv=>whnf);refine ⟨⟨rowsSz_cons rfl rowsSz_nil,by omega⟩,fitsN (n:=(lookB T x.text).length+1) (b:=8) (by omega) (by omega),.inl ⟨rfl,rfl,?_⟩⟩;(conv=>whnf);refine gGo ?_;refine ⟨_,ha,?_⟩;(conv=>whnf);refine gGs ?_;refine W.ref (Ref.rekm' 34 (es1:=ownE 200 (addB T x.text y)) [200] rfl (by rw [←hse _ rfl];rfl) ownE_sites (fun q hq=>by simp at hq;subst hq;rfl)) ?_;refine gGo ?_;refine ⟨_,_,?_,⟨y+1,by omega,rfl,rfl⟩,[(1,1),(3,3),(19,19),(5,5),(34,34),(200,200)],[],[],.mq (.ci 1 (.ci 3 (.ci 19 (.ci 5 (.cons 34 rfl rfl (.refl _) (by rw [hsn,hl1];rfl) (.fam 200 rfl (by rw [hsn,←hsf];unfold lisB;rw [show natRows (lookB T x.text++[y])=natRows (lookB T x.text)++[[.int .i64 (y:Int)]] by simp [natRows]];rfl) (ownF_fam _) .nil))))))⟩;omega
    ·rw [decide_eq_false hpos,if_neg (by decide)] at hsn;refine gGo ?_;refine ⟨_,_,?_,⟨y+1,by omega,rfl,rfl⟩,[(1,1),(3,3),(19,19),(5,5),(34,34),(200,200)],[],[],.mq (.ci 1 (.ci 3 (.ci 19 (.ci 5 (.cons 34 rfl rfl (.refl _) (by rw [hsn];rfl) (.fam 200 rfl (by rw [hsn];rfl) (ownF_fam _) .nil))))))⟩;omega
  ·have hye:y=rowsN (tabN l p (i+1)):=by omega
   rw [hye];refine gA ?_;refine gD rfl ?_;refine gG ?_;(conv=>whnf);refine W.leG (mp:=[(1,1),(3,3),(19,19),(34,34)]) (bo:=[200]) (st':=⟨[(1,.bp 1 0),(3,.bp 3 0),(24,.sl ((nodRows (planN l p)).drop 1) false),(25,.int .i64 (((nodRows (planN l p)).drop 1).length:Nat)),(26,.int .i64 i)],[(1,[.rows 1 [[.ro (planR l p) 0]] none]),(3,[.rows 1 [[.osl 19 0 0 N N]] none]),(19,[.rows 1 ((byD l p (i+1)).set (i+1) [.omap 34 0]) (some [34])]),(34,[.map (datE (bunN l p (i+1) (rowsN (tabN l p (i+1))))) (bunN l p (i+1) (rowsN (tabN l p (i+1)))).length (some [])])],[1,3,19,34]⟩)
    (LeG.mq (.ci 1 (.ci 3 (.ci 19 (.cons 34 (b1:=.map (datE (bunN l p (i+1) (rowsN (tabN l p (i+1))))) (bunN l p (i+1) (rowsN (tabN l p (i+1)))).length (some [])) rfl rfl (datE_lent rfl rfl) rfl .nil))))) ?_
   refine W.leG (mp:=[(1,1),(3,3),(19,19)]) (bo:=[34]) (st':=⟨[(1,.bp 1 0),(3,.bp 3 0),(24,.sl ((nodRows (planN l p)).drop 1) false),(25,.int .i64 (((nodRows (planN l p)).drop 1).length:Nat)),(26,.int .i64 i)],[(1,[.rows 1 [[.ro (planR l p) 0]] none]),(3,[.rows 1 [[.osl 19 0 0 N N]] none]),(19,[.rows 1 (byD l p (i+2)) (some [])])],[1,3,19]⟩)
    (LeG.mq (.ci 1 (.ci 3 (.cons 19 (b1:=.rows 1 (byD l p (i+2)) (some [])) rfl rfl (by_lent hlt rfl rfl) rfl .nil)))) ?_
   refine gGo ?_;exact gZ ⟨i+1,by omega,rfl,rfl⟩
 ·have hie:i=p.steps.length:=by omega
  rw [hie];refine gA ?_;refine gD rfl ?_;refine gG ?_;(conv=>whnf);refine W.leG (mp:=[(1,1),(3,3)]) (bo:=[19]) (st':=⟨[(1,.bp 1 0),(3,.bp 3 0)],[(1,[.rows 1 [[.ro (planR l p) 0]] none]),(3,[.rows 1 [[.sl (byD l p (p.steps.length+1)) false]] none])],[1,3]⟩)
   (LeG.mq (.ci 1 (.cons 3 (b1:=.rows 1 [[.sl (byD l p (p.steps.length+1)) false]] none) rfl rfl (.rows _ _ _ (by repeat' (first | exact trivial | exact ⟨Lent.whole rfl rfl (by rw [byD_len];omega) rfl (.inl rfl),rfl⟩ | apply And.intro))) rfl .nil))) ?_
  refine gGo ?_;intros;refine And.intro ⟨by omega,by omega,(by show (((nodRows (planN l p)).length:Nat):Int)*8≤_;omega),by omega⟩ ?_;rw [Int.toNat_natCast];(conv=>whnf);refine gGo ?_;have hx0:=plan_row (l:=l) (p:=p) (Nat.zero_le _);have hc0:=intRows_len .i64 (cntsN l p 0);rw [cntsN_len] at hc0;change _=rowsN (tabN l p 0) at hc0;have hr0:=(validB_rows (tabN_ok h (i:=0) (by omega))).1;have hg0:∀ y,y<rowsN (tabN l p 0)→(intRows .i64 (cntsN l p 0))[y]?=some [.int .i64 (cntI l p 0 y)]:=fun y hy=>cntsN_get hy;generalize intRows .i64 (cntsN l p 0)=cs at *;obtain ⟨O,hO⟩:∃ O:Nat→List (List Nat),O=fun r=>((List.range r).filter fun r=>decide (0<cntI l p 0 r)).flatMap fun r=>visL l p p.steps.length [r]:=⟨_,rfl⟩
  obtain ⟨R,hR0,hRs⟩:∃ R:Nat→List Nat,R 0=List.replicate N 0∧∀ r,R (r+1)=if 0<cntI l p 0 r then r::restA l p p.steps.length [r] (R r).tail else R r:=⟨fun n=>Nat.rec (List.replicate N 0) (fun r x=>if 0<cntI l p 0 r then r::restA l p p.steps.length [r] x.tail else x) n,rfl,fun r=>rfl⟩
  have hO0:O 0=[]:=by rw [hO];rfl
  have hOs:∀ r,O (r+1)=if 0<cntI l p 0 r then O r++visL l p p.steps.length [r] else O r:=fun r=>by
   rw [hO];simp only [List.range_succ,List.filter_append,List.flatMap_append];by_cases hc:0<cntI l p 0 r<;>simp [hc]
  have hOe:O (rowsN (tabN l p 0))=rowsL l p:=by rw [←rowsW_eq h,hO];rfl
  have hRl:∀ r,(R r).length=p.steps.length+1:=fun r=>by
   induction r with
   | zero=>rw [hR0,List.length_replicate];omega
   | succ r ih =>
    rw [hRs];split
    ·rw [List.length_cons,restA_len l p _ _ _ (by rw [List.length_tail,ih];rfl)]
    ·exact ih
  have hOl:∀ r,r≤rowsN (tabN l p 0)→(O r).length≤4096:=fun r hr=>by
   have h1:∀ d r,(O r).length≤(O (r+d)).length:=fun d r=>by
    induction d with
    | zero=>exact Nat.le_refl _
    | succ d ih =>
     rw [show r+(d+1)=(r+d)+1 by omega,hOs];split
     ·rw [List.length_append];omega
     ·exact ih
   have h2:=h1 (rowsN (tabN l p 0)-r) r;rw [show r+(rowsN (tabN l p 0)-r)=rowsN (tabN l p 0) by omega,hOe] at h2;omega
  have hrep:natRows (R 0)=List.replicate N [.int .i64 0]:=by rw [hR0];simp [natRows]
  have hrl0:=natRows_len (R 0);have hRl0:=hRl 0;clear hO;(refine g ?_;intros);refine W.ownCell 9 0 0 95 1 rfl rfl rfl rfl rfl ?_;refine W.leG (mp:=[(1,90),(9,91),(10,92),(3,93),(11,94),(95,95),(83,96)]) (bo:=[]) (st':=⟨[(9,.bp 91 0),(10,.bp 92 0),(11,.bp 94 0),(91,.sl cs false),(92,.int .i64 cs.length),(93,.int .i64 (0:Nat))],[(90,[.rows 1 [[.ro (planR l p) 0]] none]),(91,[.rows 1 [[.osl 95 0 0 (rowRows (O 0)).length (rowRows (O 0)).length]] none]),(92,[.rows 1 [[.osl 96 0 0 (natRows (R 0)).length (natRows (R 0)).length]] none]),(93,[.rows 1 [[.sl (byD l p (p.steps.length+1)) false]] none]),(94,[.rows 1 [[.fn 141 [.bp 90 0,.bp 91 0,.bp 92 0,.bp 93 0,.bp 94 0]]] none]),(95,[.rows 1 (rowRows (O 0)) (some [])]),(96,[.rows 1 (natRows (R 0)) (some [])])],[90,91,92,93,94,95,96]⟩)
   (LeG.mq (.ci 1 (.cons 9 rfl rfl (.refl _) (by rw [hO0];rfl) (.cons 10 rfl rfl (.refl _) (by rw [hrl0,hRl0,←hpl];rfl) (.ci 3 (.ci 11 (.cons 95 rfl rfl (.refl _) (by rw [hO0];rfl) (.cons 83 rfl rfl (.refl _) (by rw [hrep,hNN];rfl) .nil)))))))) ?_
  refine W.loopG (fun m st=>∃ r:Nat,r≤rowsN (tabN l p 0)∧m=rowsN (tabN l p 0)-r∧st=⟨[(9,.bp 91 0),(10,.bp 92 0),(11,.bp 94 0),(91,.sl cs false),(92,.int .i64 cs.length),(93,.int .i64 r)],[(90,[.rows 1 [[.ro (planR l p) 0]] none]),(91,[.rows 1 [[.osl 95 0 0 (rowRows (O r)).length (rowRows (O r)).length]] none]),(92,[.rows 1 [[.osl 96 0 0 (natRows (R r)).length (natRows (R r)).length]] none]),(93,[.rows 1 [[.sl (byD l p (p.steps.length+1)) false]] none]),(94,[.rows 1 [[.fn 141 [.bp 90 0,.bp 91 0,.bp 92 0,.bp 93 0,.bp 94 0]]] none]),(95,[.rows 1 (rowRows (O r)) (some [])]),(96,[.rows 1 (natRows (R r)) (some [])])],[90,91,92,93,94,95,96]⟩)
   (rowsN (tabN l p 0)) _ ⟨0,by omega,by omega,rfl⟩ gX ?_
  rintro m st ⟨r,hr,rfl,rfl⟩;have hrrl:=natRows_len (R r);have hRlr:=hRl r;refine gT (fun hb=>?_) fun hb=>?_
  ·have hlt:r<rowsN (tabN l p 0):=by omega
   have hg:=hg0 r hlt;have hos:=hOs r;have hrs:=hRs r;have hol1:=hOl (r+1) (by omega);have hcb:=cntI_bound h (i:=0) (by omega) hlt;refine g ?_;by_cases hpos:0<cntI l p 0 r
   ·rw [if_pos hpos] at hos hrs;rw [hos,List.length_append] at hol1;obtain ⟨z,hgi⟩:∃ z:Int,(natRows (R r))[0]?=some [.int .i64 z]:=⟨_,natRows_get (by omega)⟩
    have hset:(natRows (R r)).set 0 [.int .i64 ((r:Nat):Int)]=natRows ([r]++(R r).tail):=by
     cases hRc:R r with
     | nil=>rw [hRc] at hRlr;simp at hRlr
     | cons z zs=>simp [natRows]
    have hsp:=visit_spec h p.steps.length [r] (R r).tail (O r) (by simp) (by rw [List.length_singleton];omega) (by rw [List.length_tail];omega) ⟨fun i hi=>(by
     have e:i=0:=(by rw [List.length_singleton] at hi;omega)
     subst e;exact hlt),fun q hq=>(by rw [List.length_singleton] at hq;omega)⟩ (fun i hi=>(by
     have e:i=0:=(by rw [List.length_singleton] at hi;omega)
     subst e
     show cntI l p 0 r≠0
     omega)) hol1
    rw [←hos,show [r]++restA l p p.steps.length [r] (R r).tail=R (r+1) by rw [hrs];rfl] at hsp;have hnl3:=natRows_len ([r]++(R r).tail);have hrl4:([r]++(R r).tail).length=p.steps.length+1:=by rw [List.length_append,List.length_tail,List.length_singleton];omega
    have hle:(natRows ([r]++(R r).tail)).length=(natRows (R r)).length:=by omega
    change Spec _ _ [.int .i64 1,_,_,_,_,_] _ _ _ at hsp;unfold visH at hsp;generalize [r]++(R r).tail=row1 at *;refine gK (by omega) ?_;(conv=>whnf);refine gGs ?_;refine gC rfl ?_;refine gA ?_;(refine gE env hN (by kernel_rfl) ?_;conv=>whnf);refine gGs ?_;refine rowAt_of (by simpa using hgi) ?_;(conv=>whnf);refine gGs ?_;refine W.leG (mp:=[(90,90),(91,91),(92,92),(93,93),(94,94),(95,95),(96,96)]) (bo:=[]) (st':=⟨[(9,.bp 91 0),(10,.bp 92 0),(11,.bp 94 0),(91,.sl cs false),(92,.int .i64 cs.length),(93,.int .i64 r)],[(90,[.rows 1 [[.ro (planR l p) 0]] none]),(91,[.rows 1 [[.osl 95 0 0 (rowRows (O r)).length (rowRows (O r)).length]] none]),(92,[.rows 1 [[.osl 96 0 0 (natRows row1).length (natRows row1).length]] none]),(93,[.rows 1 [[.sl (byD l p (p.steps.length+1)) false]] none]),(94,[.rows 1 [[.fn 141 [.bp 90 0,.bp 91 0,.bp 92 0,.bp 93 0,.bp 94 0]]] none]),(95,[.rows 1 (rowRows (O r)) (some [])]),(96,[.rows 1 (natRows row1) (some [])])],[90,91,92,93,94,95,96]⟩)
     (LeG.mq (.ci 90 (.ci 91 (.cons 92 rfl rfl (.refl _) (by rw [hle];rfl) (.ci 93 (.ci 94 (.ci 95 (.cons 96 rfl rfl (.refl _) (by rw [←hset];rfl) .nil)))))))) ?_
    refine gGo ?_;(refine gCA [(90,90),(91,91),(92,92),(93,93),(94,94),(95,95),(96,96)] [] [] (hsp) ?_;conv=>whnf);refine gGo ?_;refine ⟨_,_,?_,⟨r+1,by omega,rfl,rfl⟩,[(90,90),(91,91),(92,92),(93,93),(94,94),(95,95),(96,96)],[],[],.mq (.ci 90 (.ci 91 (.ci 92 (.ci 93 (.ci 94 (.ci 95 (.ci 96 .nil))))))) ⟩;omega
   ·rw [if_neg hpos] at hos hrs;refine gGo ?_;refine ⟨_,_,?_,⟨r+1,by omega,rfl,rfl⟩,[(90,90),(91,91),(92,92),(93,93),(94,94),(95,95),(96,96)],[],[],.mq (.ci 90 (.cons 91 rfl rfl (.refl _) (by rw [hos];rfl) (.cons 92 rfl rfl (.refl _) (by rw [hrs];rfl) (.ci 93 (.ci 94 (.cons 95 rfl rfl (.refl _) (by rw [hos];rfl) (.cons 96 rfl rfl (.refl _) (by rw [hrs];rfl) .nil)))))))⟩;omega
  ·have hre:r=rowsN (tabN l p 0):=by omega
   rw [hre,hOe];refine gGo ?_;(refine gM ?_;conv=>whnf);exact retH rfl (.refl _) rfl rfl rfl ⟨rfl,rfl,trivial⟩
theorem totN_eq (l:List Table) (p:Pth):totN l p=((rowsL l p).length:Int):=rows_total
end Go.Sx.Sp
