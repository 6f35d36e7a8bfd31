/- Rows of a plan, as the program walks them. -/
import Derived.Test.YthlokmbefpjmgaaGreatDoorJSix
import Derived.Test.YthlokmbefpjmgaaGreatDoorSxFive
import Derived.Test.YthlokmbefpjmgaaGreatDoorJSeven
import Derived.Test.YthlokmbefpjmgaaGreatDoorSxFour
set_option linter.unusedVariables false
set_option linter.unusedSimpArgs false
set_option maxHeartbeats 32000000
namespace Go.Sx.Sp
open Go Go.Sx Go.Proofs
attribute [local irreducible] aO famL
theorem stpRows_sz(l:List Stp):bA (ae l) 4:=by
 unfold bA;intro r hr;obtain⟨s,_,rfl⟩:=List.mem_map.1 hr;rfl
theorem uR(un:List Int)(cs:List Int):repL un cs={ repL [] cs with unused:=un }:=by
 have:∀(cs:List Int) (r r':Rep),r={ r' with unused:=r.unused }→cs.foldl eW r={ cs.foldl eW r' with unused:=r.unused }:=by
  intro cs
  induction cs with
  |nil=>intro r r' h;exact h
  |cons c cs ih =>
   intro r r' h;have:=ih (eW r c) (eW r' c) (by
    rw[h];rfl)
   rw[List.foldl_cons,List.foldl_cons,this];rfl
 exact this cs ⟨0,0,0,un⟩ ⟨0,0,0,[]⟩ rfl
section
variable {l:List Table}{p:Pth}
theorem Eh(h:aD l p=0):(repE l p).1=⟨((a6 l p).length:Int),(repL [] (aK l p 0)).lost,(repL [] (aK l p 0)).most,(List.range p.steps.length).map fun q=>(ab (tabN l p (q+1)):Int)-(mL (q+1) (a6 l p)).length⟩:=by
 have hr:=FC h;have hu:(List.range p.steps.length).map (fun q=>unuN l p (q+1))=(List.range p.steps.length).map fun q=>(ab (tabN l p (q+1)):Int)-(mL (q+1) (a6 l p)).length:=
  List.map_congr_left fun q hq=>DQ h (by have:=List.mem_range.1 hq;omega)
 rw[rQ,hu] at hr;have hm:(repE l p).1={ repL [] (aK l p 0) with unused:=(repE l p).1.unused }:=by
  unfold repE;rw[if_pos h];simp only;rw[uR,uR]
 have hl:(repE l p).1.lost=(repL [] (aK l p 0)).lost:=by rw[hm]
 have hmo:(repE l p).1.most=(repL [] (aK l p 0)).most:=by rw[hm]
 generalize (repE l p).1=R at *;obtain⟨a,b,c,d⟩:=R;obtain⟨_,h1,_,h2⟩:=hr;simp only at h1 h2 hl hmo;rw[h1,h2,hl,hmo]
end
end Go.Sx.Sp
namespace Go.Sx.Sp
open Go Go.Sx Go.Proofs
attribute [local irreducible] aO famL
theorem lh{α β:Type}(P:α→Bool)(f:α→List β):∀l:List α,(l.filter P).flatMap f=l.flatMap fun y=>if P y=true then f y else []
 | []=>rfl
 |x::l=>by
  rw[List.flatMap_cons,←lh P f l];cases h:P x with
  |true=>rw[List.filter_cons_of_pos h,List.flatMap_cons];rfl
  |false=>rw[List.filter_cons_of_neg (by simp[h])];simp
theorem sB{α β:Type}{f g:α→List β}{l:List α}(h:∀x∈l,f x=g x):l.flatMap f=l.flatMap g:=by
 induction l with
 |nil=>rfl
 |cons x l ih=>rw[List.flatMap_cons,List.flatMap_cons,h x (by simp),ih fun y hy=>h y (by simp[hy])]
section
variable (l:List Table) (p:Pth)
def onB(i:Nat)(s:Str)(y:Nat):Bool:=!(ay (tabN l p i) (ownN l p i) y).null&&(decide ((ay (tabN l p i) (ownN l p i) y).text=s)&&decide (0<cntI l p i y))
def byL(i:Nat)(s:Str)(n:Nat):List Nat:=(List.range n).filter (onB l p i s)
def parC(hv:List Nat)(i:Nat):Cell:=ay (tabN l p (parI p (i-1))) (frN l p i) (hv.getD (parI p (i-1)) 0)
def visL:Nat→List Nat→List (List Nat)
 | 0,hv=>[hv]
 |k+1,hv=>(byL l p hv.length (parC l p hv hv.length).text (ab (tabN l p hv.length))).flatMap fun y=>visL k (hv++[y])
def Fu:List (List Nat):=((List.range (ab (tabN l p 0))).filter fun r=>decide (0<cntI l p 0 r)).flatMap fun r=>visL l p p.steps.length [r]
end
section
variable {l:List Table}{p:Pth}
theorem mS{hv:List Nat}{y j:Nat}(hj:hv.length=j+1)(hjs:j<p.steps.length)(hc:CombK l p hv.length (fun i=>hv.getD i 0))(hy:y<ab (tabN l p hv.length))(hf:cX l p j (hv.getD (parI p j) 0) y=true):CombK l p (hv++[y]).length (fun i=>(hv++[y]).getD i 0):=by
 have hpar:=bz p (i:=j) (by omega);rw[List.length_append,List.length_singleton];refine⟨fun i hi=>?_,fun q hq=>?_⟩
 ·by_cases e:i=hv.length
  ·subst e;simp only[d5];exact hy
  ·simp only[dm (show i<hv.length by omega)];exact hc.lt i (by omega)
 ·have hp:=bz p (i:=q) (by omega);by_cases e:q+1=hv.length
  ·obtain rfl:q=j:=by omega
   simp only[e,d5,dm (show parI p q<hv.length by omega)];exact hf
  ·simp only[dm (show q+1<hv.length by omega),dm (show parI p q<hv.length by omega)];exact hc.fit q (by omega)
theorem yb(h:aD l p=0){k:Nat}{hv:List Nat}(hne:hv≠[])(hl:hv.length+k=p.steps.length+1)(hc:CombK l p hv.length (fun i=>hv.getD i 0)){i:Nat}(hi:i<hv.length)(h0:cntI l p i (hv.getD i 0)=0):ext l p k hv=[]:=by
 cases he:ext l p k hv with
 |nil=>rfl
 |cons x r =>
  exfalso;obtain⟨g1,g2,g3⟩:=vN k hv x hne hl hc (by rw[he];simp);have:=lG h g2 (i:=i) (by omega);simp only[g3 i hi] at this;exact this h0
theorem Ei(h:aD l p=0):∀(k:Nat) (hv:List Nat),hv≠[]→hv.length+k=p.steps.length+1→CombK l p hv.length (fun i=>hv.getD i 0)→(∀i,i<hv.length→cntI l p i (hv.getD i 0)≠0)→visL l p k hv=ext l p k hv
 | 0,hv,_,_,_,_=>rfl
 |k+1,hv,hne,hl,hc,hn=>by
  have hpos:0<hv.length:=List.length_pos_iff.2 hne;obtain⟨j,hj⟩:∃j,hv.length=j+1:=⟨hv.length-1,by omega⟩
  have hpar:=bz p (i:=j) (by omega);show(byL l p hv.length (parC l p hv hv.length).text (ab (tabN l p hv.length))).flatMap (fun y=>visL l p k (hv++[y]))=extN l p (ext l p k) hv (ab (tabN l p hv.length));unfold byL extN;rw[lh];refine sB fun y hy=>?_;have hy:=List.mem_range.1 hy;unfold extF;rw[show hv.length-1=j by omega];have hpn:=hn (parI p j) (by omega);have hpl:=hc.lt (parI p j) (by omega);have hnn:(parC l p hv hv.length).null=false:=by
   cases hb:(parC l p hv hv.length).null with
   |false=>rfl
   |true =>
    exfalso;have h1:=(nt (by omega) hpl).1 hpn j (by omega) rfl;refine h1 (oN ?_);have h2:=hb;unfold parC at h2;rw[show hv.length-1=j by omega,hj] at h2;exact h2
  have hst:cX l p j (hv.getD (parI p j) 0) y=fitC (parC l p hv hv.length) (ay (tabN l p hv.length) (ownN l p hv.length) y):=by
   unfold cX parC;rw[show hv.length-1=j by omega,hj]
  have hcn:=fO h (i:=hv.length) (by omega) y;by_cases hf:cX l p j (hv.getD (parI p j) 0) y=true
  ·rw[if_pos hf];have hc2:=mS hj (by omega) hc hy hf;have hl2:(hv++[y]).length+k=p.steps.length+1:=by rw[List.length_append,List.length_singleton];omega
   rw[hst] at hf;unfold fitC at hf;simp only[Bool.and_eq_true,Bool.not_eq_true',decide_eq_true_eq] at hf;by_cases h0:cntI l p hv.length y=0
   ·rw[if_neg (by unfold onB;rw[decide_eq_false (show ¬0<cntI l p hv.length y by omega)];simp)];exact(yb h (by simp) hl2 hc2 (i:=hv.length) (by simp) (by rw[d5];exact h0)).symm
   ·rw[if_pos (by unfold onB;rw[hf.2.1,decide_eq_true hf.2.2.symm,decide_eq_true (show 0<cntI l p hv.length y by omega)];rfl)];refine Ei h k (hv++[y]) (by simp) hl2 hc2 fun i hi=>?_;by_cases e:i=hv.length
    ·subst e;rw[d5];exact h0
    ·have hi2:i<hv.length:=by
      rw[List.length_append,List.length_singleton] at hi;omega
     rw[dm hi2];exact hn i hi2
  ·rw[if_neg hf,if_neg];intro ho;apply hf;rw[hst];unfold onB at ho;simp only[Bool.and_eq_true,Bool.not_eq_true',decide_eq_true_eq] at ho;unfold fitC;rw[hnn,ho.1,ho.2.1];simp
theorem Ej(h:aD l p=0):Fu l p=a6 l p:=by
 unfold Fu a6 eX;rw[lh];refine sB fun r hr=>?_;have hr:=List.mem_range.1 hr;have hcn:=fO h (i:=0) (by omega) r;have hc:CombK l p ([r]:List Nat).length (fun i=>([r]:List Nat).getD i 0):=⟨fun i hi=>(by
  have e:i=0:=(by rw[List.length_singleton] at hi;omega)
  subst e;exact hr),fun q hq=>(by rw[List.length_singleton] at hq;omega)⟩
 by_cases h0:cntI l p 0 r=0
 ·rw[if_neg (by simp[h0])];exact(yb h (k:=p.steps.length) (by simp) (by rw[List.length_singleton];omega) hc (i:=0) (by simp) h0).symm
 ·rw[if_pos (by simp;omega)];exact Ei h _ _ (by simp) (by rw[List.length_singleton];omega) hc fun i hi=>(by
   have e:i=0:=(by rw[List.length_singleton] at hi;omega)
   subst e;exact h0)
end
end Go.Sx.Sp
namespace Go.Sx.Sp
open Go Go.Sx Go.Proofs
attribute [local irreducible] aO famL
abbrev Bun:=List (Str×List Nat)
def dq(T:Bun)(s:Str):List Nat:=match ixS s (aL T) with|some j=>(T.getD j ([],[])).2|none=>[]
def addB(T:Bun)(s:Str)(i:Nat):Bun:=match ixS s (aL T) with|some j=>T.set j (s,dq T s++[i])|none=>T++[(s,[i])]
def ownV(F k:Nat):Bun→List (Str×V)
 | []=>[]
 |p::T=>(p.1,.osl F (k+2) 0 p.2.length p.2.length)::ownV F (k+1) T
def ownE(F:Nat)(T:Bun):List (Nat×V×V):=tabE 0 (ownV F 0 T)
def datE(T:Bun):List (Nat×V×V):=tabE 0 (T.map fun p=>(p.1,.sl (af p.2) false))
def lisB(L:List Nat):Blk:=.rows 1 (af L) (some [])
def ownF(T:Bun):List Blk:=lisB []::lisB []::T.map fun p=>lisB p.2
theorem iC(T:Bun):∀b∈ownF T,b.famB=true:=fun b hb=>by
 unfold ownF at hb;rcases List.mem_cons.1 hb with rfl|hb
 ·rfl
 rcases List.mem_cons.1 hb with rfl|hb
 ·rfl
 obtain⟨x,_,rfl⟩:=List.mem_map.1 hb;rfl
theorem Ek(T:Bun):(ownF T).length=T.length+2:=by simp[ownF]
theorem yc{T:Bun}{j:Nat}{q:Str×List Nat}(h:T[j]?=some q):(ownF T)[j+2]?=some (lisB q.2):=by
 unfold ownF;rw[List.getElem?_cons_succ,List.getElem?_cons_succ,List.getElem?_map,h];rfl
theorem sC(F:Nat):∀(T:Bun) (k:Nat),(ownV F k T).length=T.length
 | [],_=>rfl
 |p::T,k=>by simp[ownV,sC F T]
theorem uS(F:Nat):∀(T:Bun) (k:Nat),aL (ownV F k T)=aL T
 | [],_=>rfl
 |p::T,k=>by
  have:=uS F T (k+1);simp only[aL] at this ⊢;simp[ownV,this]
theorem fV(F:Nat):∀(T:Bun) (k j:Nat),(ownV F k T)[j]?=(T[j]?).map fun p=>(p.1,.osl F (k+j+2) 0 p.2.length p.2.length)
 | [],k,j=>by simp[ownV]
 |p::T,k,0=>by simp[ownV]
 |p::T,k,j+1=>by
  simp only[ownV,List.getElem?_cons_succ];rw[fV F T (k+1) j,show k+1+j=k+(j+1) by omega]
theorem jB(F:Nat)(T:Bun):(ownE F T).length=T.length:=by simp[ownE,kS,sC]
theorem E8{α:Type}{T:List (Str×α)}{s:Str}{j:Nat}(h:ixS s (aL T)=some j):∃v,T[j]?=some (s,v):=by
 have h1:=ek h;unfold aL at h1;rw[List.getElem?_map,Option.map_eq_some_iff] at h1;obtain⟨⟨a,v⟩,h2,h3⟩:=h1;simp only at h3;subst h3;exact⟨v,h2⟩
theorem nQ{T:Bun}{s:Str}{j:Nat}(h:ixS s (aL T)=some j):T[j]?=some (s,dq T s):=by
 obtain⟨v,hv⟩:=E8 h;unfold dq;rw[h,hv];simp[List.getD_eq_getElem?_getD,hv]
theorem E9(F:Nat)(T:Bun)(s:Str):aZ (.str s) (ownE F T)=some ((ixS s (aL T)).map fun j=>(j,j,.osl F (j+2) 0 (dq T s).length (dq T s).length)):=by
 unfold ownE;rw[nh,uS];cases h:ixS s (aL T) with
 |none=>rfl
 |some j =>
  have h1:=nQ h;have h2:=fV F T 0 j;rw[h1] at h2;simp only[Option.map_some] at h2 ⊢;rw[List.getD_eq_getElem?_getD,h2];simp
theorem lO{T:Bun}{s:Str}{i j:Nat}(h:ixS s (aL T)=some j):addB T s i=T.set j (s,dq T s++[i]):=by unfold addB;rw[h]
theorem jC{T:Bun}{s:Str}{i:Nat}(h:ixS s (aL T)=none):addB T s i=T++[(s,[i])]:=by unfold addB;rw[h]
theorem El(T:Bun)(s:Str)(i:Nat):(addB T s i).length≤T.length+1:=by
 unfold addB;split<;>simp
theorem Em{F:Nat}{T:Bun}{s:Str}{i j n:Nat}(h:ixS s (aL T)=some j)(hn:n=(dq T s).length+1):(ownE F T).set j (j,.str s,.osl F (j+2) 0 n n)=ownE F (addB T s i):=by
 rw[lO h];apply List.ext_getElem?;intro k;have hj:=i9 h;unfold ownE;rw[List.getElem?_set,kS,sC,el,el,fV,fV,List.getElem?_set];by_cases e:j=k
 ·subst e;simp[hj,hn]
 ·simp[e]
theorem En{T:Bun}{s:Str}{i j:Nat}(h:ixS s (aL T)=some j):(ownF T).set (j+2) (lisB (dq T s++[i]))=ownF (addB T s i):=by
 rw[lO h];unfold ownF;rw[List.map_set];rfl
theorem Eo{T:Bun}{s:Str}{i:Nat}(h:ixS s (aL T)=none):ownF T++[lisB [i]]=ownF (addB T s i):=by
 rw[jC h];simp[ownF]
theorem Ep{T:Bun}{s:Str}{i d F c c1:Nat}(hdF:d≠F)(h:ixS s (aL T)=none)(hc:c=T.length)(ks:Option (List Nat)):BGat d F (T.length+2) (.map (ownE F T++[(c,.str s,.osl d 0 0 1 1)]) c1 ks) (.map (ownE F (addB T s i)) c1 (some [F])):=by
 subst hc;have hl:(ownE F (addB T s i)).length=T.length+1:=by rw[jB,jC h];simp
 refine .map _ _ _ _ _ (by rw[hl,List.length_append,jB];rfl) fun j b k v1 hj=>?_;have hjl:j<T.length+1:=by
  have:=(List.getElem?_eq_some_iff.1 hj).1
  rwa [hl] at this
 unfold ownE at hj;rw[el,fV,jC h] at hj;by_cases e:j=T.length
 ·subst e;rw[List.getElem?_append_right (Nat.le_refl _),Nat.sub_self] at hj;simp only[List.getElem?_cons_zero,Option.map_some,Nat.zero_add,Option.some.injEq,Prod.mk.injEq] at hj;obtain⟨rfl,rfl,rfl⟩:=hj;refine⟨.osl d 0 0 1 1,?_,?_,fun l hl s hs=>?_⟩
  ·rw[List.getElem?_append_right (by rw[jB];exact Nat.le_refl _),jB,Nat.sub_self];rfl
  ·simp[V.gat]
  ·cases hl;simpa[V.sites] using hs
 ·have hj2:j<T.length:=by omega
  rw[List.getElem?_append_left hj2,List.getElem?_eq_getElem hj2] at hj;simp only[Option.map_some,Nat.zero_add,Option.some.injEq,Prod.mk.injEq] at hj;obtain⟨rfl,rfl,rfl⟩:=hj;refine⟨.osl F (j+2) 0 T[j].2.length T[j].2.length,?_,?_,fun l hl s hs=>?_⟩
  ·rw[List.getElem?_append_left (by rw[jB];exact hj2)];unfold ownE;rw[el,fV,List.getElem?_eq_getElem hj2];simp
  ·simp[V.gat,hj2,Ne.symm hdF]
  ·cases hl;simpa[V.sites] using hs
theorem zW{F:Nat}{T:Bun}:∀(i:Nat) b key v,(ownE F T)[i]?=some (b,key,v)→∀s∈v.sites,s∈[F]:=fun i b key v hi s hs=>by
 unfold ownE at hi;rw[el,fV] at hi;cases hT:T[i]? with
 |none=>rw[hT] at hi;simp at hi
 |some q =>
  rw[hT] at hi;simp only[Option.map_some,Option.some.injEq,Prod.mk.injEq] at hi;obtain⟨rfl,rfl,rfl⟩:=hi;simpa[V.sites] using hs
theorem Cp(T:Bun)(s:Str):∃r,aZ (.str s) (datE T)=some r∧((ixS s (aL T)=none∧r=none)∨∃j,ixS s (aL T)=some j∧r=some (j,j,.sl (af (dq T s)) false)):=by
 unfold datE;refine⟨_,nh s _ 0,?_⟩;have hk:aL (T.map fun p=>(p.1,V.sl (af p.2) false))=aL T:=by simp[aL]
 rw[hk];cases h:ixS s (aL T) with
 |none=>exact .inl ⟨rfl,rfl⟩
 |some j =>
  refine .inr ⟨j,rfl,?_⟩;have h1:=nQ h;simp[List.getD_eq_getElem?_getD,h1]
theorem sD{T:Bun}{s:Str}(h:ixS s (aL T)=none):dq T s=[]:=by unfold dq;rw[h]
theorem Cq{H:Nat→List Blk}{F c:Nat}{T:Bun}{bo:List Nat}{ks:Option (List Nat)}(hF:H F=ownF T)(hb:memB F bo=true):BLent H bo (.map (ownE F T) c ks) (.map (datE T) c (some [])):=by
 refine .mapF _ _ _ _ (by simp[datE,jB,kS]) fun j b k v1 hj=>?_;unfold datE at hj;rw[el,List.getElem?_map] at hj;cases hT:T[j]? with
 |none=>rw[hT] at hj;simp at hj
 |some q =>
  rw[hT] at hj;simp only[Option.map_some,Nat.zero_add,Option.some.injEq,Prod.mk.injEq] at hj;obtain⟨rfl,rfl,rfl⟩:=hj;refine⟨.osl F (j+2) 0 q.2.length q.2.length,?_,?_,by simp[V.sites]⟩
  ·unfold ownE;rw[el,fV,hT];simp
  ·have h1:(H F)[j+2]?=some (.rows 1 (af q.2) (some [])):=by
    rw[hF];exact yc hT
   have:=Lent.oslF (H:=H) (bo:=bo) F (j+2) 0 q.2.length q.2.length 1 (af q.2) (some []) hb h1 (aQ q.2).symm (.inl rfl);rw[List.drop_zero,List.take_of_length_le (by rw[aQ];exact Nat.le_refl _)] at this;exact this
theorem Cr(T:Bun)(ks:Option (List Nat)):vx (datE T) ks:=.inr fun p hp=>by
 obtain⟨j,hj⟩:=List.getElem?_of_mem hp;unfold datE at hj;rw[el,List.getElem?_map] at hj;cases hT:T[j]? with
 |none=>rw[hT] at hj;simp at hj
 |some q=>rw[hT] at hj;simp at hj;rw[←hj];simp[V.sites]
theorem Cs(T:Bun)(s u:Str)(i:Nat):dq (addB T s i) u=if u=s then dq T s++[i] else dq T u:=by
 cases h:ixS s (aL T) with
 |none =>
  rw[jC h,sD h];have hs:=jn.1 h;unfold dq;have hk:aL (T++[(s,[i])])=aL T++[s]:=by simp[aL]
  rw[hk];cases hu:ixS u (aL T) with
  |none =>
   have hu2:=jn.1 hu;by_cases e:u=s
   ·subst e;have:ixS u (aL T++[u])=some T.length:=by
     have hm:∀l:List Str,u∉l→ixS u (l++[u])=some l.length:=fun l=>by
      induction l with
      |nil=>intro _;simp[ixS]
      |cons x l ih =>
       intro hn;have h1:¬u=x:=fun e=>hn (by simp[e]);simp[ixS,h1,ih fun hm=>hn (by simp[hm])]
     rw[hm _ hu2];simp[aL]
    rw[this,if_pos rfl];simp
   ·have:ixS u (aL T++[s])=none:=jn.2 (by simp[hu2,e]);rw[this,if_neg e]
  |some j =>
   have hj:=i9 hu;have hne:¬u=s:=fun e=>by subst e;rw[h] at hu;cases hu
   have:ixS u (aL T++[s])=some j:=by
    have hm:∀(l:List Str) (j:Nat),ixS u l=some j→ixS u (l++[s])=some j:=fun l=>by
     induction l with
     |nil=>intro j hj;simp[ixS] at hj
     |cons x l ih =>
      intro j hj;by_cases e:u=x
      ·simp[ixS,e] at hj ⊢;exact hj
      ·simp only[ixS,e,if_false,Option.map_eq_some_iff,List.cons_append] at hj ⊢;obtain⟨q,hq,rfl⟩:=hj;exact⟨q,ih q hq,rfl⟩
    exact hm _ _ hu
   rw[this,if_neg hne];simp[List.getD_eq_getElem?_getD,List.getElem?_append_left hj]
 |some j =>
  rw[lO h];have hj:=i9 h;have hg:=nQ h;generalize dq T s=L at *;have hk:aL (T.set j (s,L++[i]))=aL T:=by
   unfold aL;rw[List.map_set];apply List.ext_getElem?;intro k;rw[List.getElem?_set];by_cases e:j=k
   ·subst e;rw[if_pos rfl,if_pos (by rw[List.length_map];exact hj),List.getElem?_map,hg];rfl
   ·rw[if_neg e]
  unfold dq;rw[hk];by_cases e:u=s
  ·subst e;rw[h,if_pos rfl];simp[List.getD_eq_getElem?_getD,hj]
  ·rw[if_neg e];cases hu:ixS u (aL T) with
   |none=>rfl
   |some q =>
    have hne:j≠q:=fun e2=>by
     subst e2;have h1:=ek h;have h2:=ek hu;rw[h1] at h2;cases h2;exact e rfl
    simp[List.getD_eq_getElem?_getD,List.getElem?_set,hne]
def bunS(P:Nat→Bool)(tx:Nat→Str):Nat→Bun
 | 0=>[]
 |n+1=>if P n=true then addB (bunS P tx n) (tx n) n else bunS P tx n
theorem oZ(P:Nat→Bool)(tx:Nat→Str)(u:Str):∀n,dq (bunS P tx n) u=(List.range n).filter fun y=>P y&&decide (tx y=u)
 | 0=>rfl
 |n+1=>by
  have ih:=oZ P tx u n;have hs:bunS P tx (n+1)=if P n=true then addB (bunS P tx n) (tx n) n else bunS P tx n:=rfl
  rw[List.range_succ,List.filter_append,←ih,hs];cases h:P n with
  |false=>simp[h]
  |true =>
   rw[if_pos rfl,Cs];by_cases e:tx n=u
   ·subst e;simp[h]
   ·rw[if_neg (Ne.symm e)];simp[h,e]
theorem yd(P:Nat→Bool)(tx:Nat→Str):∀n,(bunS P tx n).length≤n
 | 0=>Nat.le_refl _
 |n+1=>by
  have ih:=yd P tx n;have hs:bunS P tx (n+1)=if P n=true then addB (bunS P tx n) (tx n) n else bunS P tx n:=rfl
  rw[hs];split
  ·have:=El (bunS P tx n) (tx n) n;omega
  ·omega
theorem Er(P:Nat→Bool)(tx:Nat→Str)(u:Str)(n:Nat):(dq (bunS P tx n) u).length≤n:=by
 rw[oZ];refine Nat.le_trans (List.length_filter_le _ _) ?_;rw[List.length_range];exact Nat.le_refl _
def dg(l:List Table)(p:Pth):List V:=[.sl (aw (aV l p)) false]
theorem jD{l:List Table}{p:Pth}{i:Nat}(hi:i≤p.steps.length):(aw (aV l p))[i]?=some ((aH l p p.steps.length i).rowW (.sl (af (bY p p.steps.length i)) false) (.sl (aq .i64 (aK l p i)) false) (.dmap (mkD (sumE (jo l p i))))):=by
 have h1:=kV l p hi;unfold aw;rw[List.getElem?_map,h1];show some (Nod.row { aH l p p.steps.length i with done:=some (aK l p i,jo l p i) })=_;unfold Nod.row Nod.cv Nod.sv Nod.rowW;simp only[cu]
theorem fy(l:List Table)(p:Pth):(aw (aV l p)).length=p.steps.length+1:=by rw[co,oM]
def totN(l:List Table)(p:Pth):Int:=bS (ab (tabN l p 0)) (cntI l p 0)
theorem o7{l:List Table}{p:Pth}{i y:Nat}(hy:y<ab (tabN l p i)):(aq .i64 (aK l p i))[y]?=some [.int .i64 (cntI l p i y)]:=by
 have h1:y<(aK l p i).length:=by rw[cA];exact hy
 rw[dN h1];unfold cntI;rw[List.getD_eq_getElem?_getD,List.getElem?_eq_getElem h1];rfl
theorem mT{l:List Table}{p:Pth}(h:aD l p=0){i y:Nat}(hi:i≤p.steps.length)(hy:y<ab (tabN l p i)):0≤cntI l p i y∧cntI l p i y≤1125899906842624:=by
 refine fu h hi _ ?_;unfold cntI;have h1:y<(aK l p i).length:=by rw[cA];exact hy
 rw[List.getD_eq_getElem?_getD,List.getElem?_eq_getElem h1];exact List.getElem_mem h1
theorem pT{f:Nat→Int}{M:Int}:∀n,(∀y,y<n→0≤f y∧f y≤M)→0≤bS n f∧bS n f≤n*M
 | 0,_=>by simp[bS]
 |n+1,hf=>by
  have ih:=pT n fun y hy=>hf y (by omega);have:=hf n (by omega);rw[bF,Int.natCast_add,Int.add_mul];constructor
  ·omega
  ·have e:((1:Nat):Int)*M=M:=by simp
   rw[e];omega
theorem lP{l:List Table}{p:Pth}(h:aD l p=0){i:Nat}(hi:i≤p.steps.length):aR (tabN l p i)=true:=by
 have hv:=aI h;have key:∀n,(bL l n).isSome=true→aR (aT l n)=true:=fun n hn=>by
  obtain⟨t,ht⟩:=Option.isSome_iff_exists.1 hn;unfold aT;rw[ht];exact fN hv.1 t (ug ht).1
 have hp:=hv.2.2;cases i with
 |zero =>
  refine key p.start ?_;unfold iO at hp;rw[Bool.and_eq_true] at hp;exact hp.1
 |succ i =>
  have hs:=cN hp (i:=i) (by omega);have htt:tabN l p (i+1)=aT l (br p i).tt:=rfl;rw[htt];refine key _ ?_;cases hf:bL l (br p i).tt with
  |some t=>rfl
  |none =>
   exfalso;have h2:=hs.tc;unfold aT at h2;rw[hf] at h2;simp[Table.zero] at h2;omega
theorem sE{l:List Table}{p:Pth}(h:aD l p=0):Spec Tryz.prog 91 [.ro (dg l p) 0] [] (.int .i64 (totN l p)) []:=by
 have hx:=jD (l:=l) (p:=p) (Nat.zero_le _);have hl:=fy l p;have hcl:=bu .i64 (aK l p 0);rw[cA] at hcl;change _=ab (tabN l p 0) at hcl;have hr4:=(cq (lP h (Nat.zero_le _))).1;have hcg:∀y,y<ab (tabN l p 0)→(aq .i64 (aK l p 0))[y]?=some [.int .i64 (cntI l p 0 y)]:=fun y hy=>o7 hy;have hcb:∀y,y<ab (tabN l p 0)→0≤cntI l p 0 y∧cntI l p 0 y≤1125899906842624:=fun y hy=>mT h (Nat.zero_le _) hy;unfold totN dg;generalize ab (tabN l p 0)=n at *;generalize cntI l p 0=f at *;generalize aq .i64 (aK l p 0)=cs at *;have hsb:∀j,j≤n→0≤bS j f∧bS j f≤4096*1125899906842624:=fun j hj=>by
  have h1:=pT (f:=f) (M:=1125899906842624) j fun y hy=>hcb y (by omega);refine⟨h1.1,Int.le_trans h1.2 (Int.mul_le_mul_of_nonneg_right (by omega) (by decide))⟩
 refine gEn env Tryz.func91 fun Γ hN hK hML=>?_;(refine g ?_;intros);refine W.loopG (fun m st=>∃j:Nat,j≤n∧m=n-j∧st=⟨[(3,.int .i64 (bS j f)),(12,.sl cs false),(13,.int .i64 cs.length),(14,.int .i64 j)],[],[]⟩)
  n _ ⟨0,by omega,by omega,rfl⟩ gX ?_
 rintro m st ⟨j,hj,rfl,rfl⟩;have hs0:=hsb j hj;refine gT (fun hb=>?_) fun hb=>?_
 ·have hlt:j<n:=by omega
  have hg:=hcg j hlt;have hs1:=hsb (j+1) (by omega);rw[bF] at hs1;have hsn:=bF j f;refine g ?_;refine⟨_,_,?_,⟨j+1,by omega,rfl,rfl⟩,[],[],[],LeG.mk' rfl rfl rfl (by rw[hsn];exact(by repeat' (first|exact trivial|exact⟨_,.refl _,rfl⟩|apply And.intro))) .nil rfl rfl (by rw[hK];rfl)⟩;omega
 ·obtain rfl:j=n:=by omega
  exact gR
theorem zX{l:List Table}{p:Pth}{j:Nat}(h:j≤p.steps.length):(aG l p).take (j+1)=(aG l p).take j++[tabN l p j]:=by
 have h1:=cJ l p h;obtain⟨h2,h3⟩:=List.getElem?_eq_some_iff.1 h1;rw[List.take_succ_eq_append_getElem h2,h3]
theorem vX{l:List Table}{p:Pth}(h:aD l p=0):Spec Tryz.prog 93 [.ro (dg l p) 0] [] (.sl (aa (aG l p)) false) []:=by
 have hl:=fy l p;have h4:=(aI h).2.1;have hml:=cB l p;unfold dg;refine gEn env Tryz.func93 fun Γ hN hK hML=>?_;refine gGo ?_;intros;refine W.ownNil 3 111 3 rfl rfl ?_;refine W.loopG (fun m st=>∃j:Nat,j≤p.steps.length+1∧m=p.steps.length+1-j∧st=⟨[(3,.osl 111 0 0 (aa ((aG l p).take j)).length (aa ((aG l p).take j)).length),(9,.sl (aw (aV l p)) false),(10,.int .i64 (aw (aV l p)).length),(11,.int .i64 j)],[(111,[.rows 3 (aa ((aG l p).take j)) (some [])])],[111]⟩)
  (p.steps.length+1) _ ⟨0,by omega,by omega,rfl⟩ gX ?_
 rintro m st ⟨j,hj,rfl,rfl⟩;refine gT (fun hb=>?_) fun hb=>?_
 ·have hlt:j≤p.steps.length:=by omega
  have hg:=jD (l:=l) (p:=p) hlt;have htk:=zX (l:=l) (p:=p) hlt;have hsn:=j8 ((aG l p).take j) (tabN l p j);rw[←htk] at hsn;have hlr:(aa ((aG l p).take j)).length=j:=by rw[aP,List.length_take];omega
  generalize aa ((aG l p).take j)=R0 at *;refine g ?_;refine⟨⟨ao rfl au,rfl⟩,bc (n:=R0.length+1) (b:=48) (by omega) (by omega),.inl ⟨rfl,rfl,?_⟩⟩;(conv=>whnf);refine gGo ?_;refine⟨_,_,?_,⟨j+1,by omega,rfl,rfl⟩,[(111,111)],[],[],LeG.mk' rfl rfl rfl (by rw[hsn,List.length_append];exact(by repeat' (first|exact trivial|exact⟨_,.refl _,rfl⟩|apply And.intro))) (.cons 111 rfl rfl (.refl _) (by rw[hsn];rfl) .nil) rfl rfl (by rw[hK];rfl)⟩;omega
 ·obtain hje:j=p.steps.length+1:=by omega
  rw[hje,List.take_of_length_le (by omega)];refine gGo ?_;refine W.leG (mp:=[]) (bo:=[111]) (st':=⟨[(2,.sl (aa (aG l p)) false)],[],[]⟩) (LeG.mk' rfl rfl rfl ⟨⟨_,Lent.whole rfl rfl rfl rfl (.inl rfl),rfl⟩,trivial⟩ .nil rfl rfl (by rw[hK];rfl)) ?_;(refine gM ?_;conv=>whnf);exact ret0 rfl rfl rfl
theorem Fa(rows:List (List V))(hz:bA rows 1)(hin:∀U:Nat→Bool,(rows.all fun r=>r.all fun v=>v.sites.all U)=true)(hlen:rows.length≤4294967296):Spec Tryz.prog 142 [.sl rows false] [] (.osl 5 0 0 rows.length rows.length) [(5,.rows 1 rows none)]:=by
 have hfit:iI rows.length 8:=fitN hlen (by omega);refine gEn env Tryz.func142 fun Γ hN hK hML=>?_;cases rows with
 |nil =>
  refine gA ?_;(refine gE env hN (by kernel_rfl) ?_;conv=>whnf);refine W.nilSplit (full:=false) 0 (by rfl) ?_ ?_
  ·refine gGo ?_;refine W.ownNil 2 5 1 rfl rfl ?_;refine W.ref (Ref.unks 5 rfl) ?_;(refine gM ?_;conv=>whnf);exact retH rfl (.refl _) rfl rfl rfl ⟨rfl,rfl,trivial⟩
  ·refine gGl ?_;refine Or.inl ?_;(conv=>whnf);refine gGo ?_;refine⟨⟨trivial,rfl⟩,⟨by decide,by decide⟩,.inl ⟨rfl,rfl,?_⟩⟩;(conv=>whnf);refine gGo ?_;refine W.ref (Ref.unks 5 rfl) ?_;(refine gM ?_;conv=>whnf);exact retH rfl (.refl _) rfl rfl rfl ⟨rfl,rfl,trivial⟩
 |cons r rs =>
  refine gGl ?_;refine Or.inl ?_;(conv=>whnf);refine gGo ?_;refine⟨⟨hz,rfl⟩,by simpa using hfit,.inl ⟨rfl,rfl,?_⟩⟩;simp only[Nat.zero_add,List.nil_append];(conv=>whnf);refine gGo ?_;refine W.ref (Ref.unks 5 rfl) ?_;(refine gM ?_;conv=>whnf);exact retH rfl (.refl _) rfl rfl rfl ⟨rfl,hin _,trivial⟩
theorem vY(l:List Nat):((af l).all fun r=>f5 r)=true:=by
 unfold af;rw[List.all_eq_true];intro r hr;obtain⟨c,_,rfl⟩:=List.mem_map.1 hr;rfl
theorem zY(l:List Nat)(U:Nat→Bool):((af l).all fun r=>r.all fun v=>v.sites.all U)=true:=by
 unfold af;rw[List.all_eq_true];intro r hr;obtain⟨c,_,rfl⟩:=List.mem_map.1 hr;rfl
theorem zZ(l:List Nat)(ks:Option (List Nat)):dF (af l) ks:=.inr (kf l)
theorem ye(l:List Nat)(ρ:Nat→Option Nat):(af l).map (renL ρ)=af l:=by
 unfold af;rw[List.map_map];rfl
def bunN(l:List Table)(p:Pth)(i n:Nat):Bun:=bunS (fun y=>!(ay (tabN l p i) (ownN l p i) y).null&&decide (0<cntI l p i y)) (fun y=>(ay (tabN l p i) (ownN l p i) y).text) n
theorem uT(l:List Table)(p:Pth)(i n:Nat)(s:Str):dq (bunN l p i n) s=byL l p i s n:=by
 unfold bunN byL;rw[oZ];refine List.filter_congr fun y _=>?_;unfold onB;cases(ay (tabN l p i) (ownN l p i) y).null<;>cases decide (0<cntI l p i y)<;>simp
def byD(l:List Table)(p:Pth)(k:Nat):List (List V):=(List.range (p.steps.length+1)).map fun i=>if 0<i∧i<k then [.dmap (mkD (datE (bunN l p i (ab (tabN l p i)))))] else [.nilm]
theorem iS(l:List Table)(p:Pth)(k:Nat):(byD l p k).length=p.steps.length+1:=by simp[byD]
theorem Fb{l:List Table}{p:Pth}{k i:Nat}(h0:0<i)(hi:i<k)(hk:i≤p.steps.length):(byD l p k)[i]?=some [.dmap (mkD (datE (bunN l p i (ab (tabN l p i)))))]:=by
 unfold byD;rw[List.getElem?_map,List.getElem?_range (by omega)];simp[h0,hi]
def visH(l:List Table)(p:Pth)(out:List (List Nat))(row:List Nat):List (Nat×Blk):=
 [(90,.rows 1 [[.ro (dg l p) 0]] none),(91,.rows 1 [[.osl 95 0 0 (am out).length (am out).length]] none),(92,.rows 1 [[.osl 96 0 0 (af row).length (af row).length]] none),(93,.rows 1 [[.sl (byD l p (p.steps.length+1)) false]] none),(94,.rows 1 [[.fn 141 [.bp 90 0,.bp 91 0,.bp 92 0,.bp 93 0,.bp 94 0]]] none),(95,.rows 1 (am out) (some [])),(96,.rows 1 (af row) (some []))]
def iD(l:List Table)(p:Pth):Nat→List Nat→List Nat→List Nat
 | 0,_,rest=>rest
 |k+1,hv,rest=>(byL l p hv.length (parC l p hv hv.length).text (ab (tabN l p hv.length))).foldl (fun r y=>y::iD l p k (hv++[y]) r.tail) rest
theorem o8(l:List Table)(p:Pth):∀(k:Nat) (hv rest:List Nat),rest.length=k→(iD l p k hv rest).length=k
 | 0,_,rest,h=>h
 |k+1,hv,rest,h=>by
  unfold iD;generalize byL l p hv.length (parC l p hv hv.length).text (ab (tabN l p hv.length))=ys
  induction ys generalizing rest with
  |nil=>exact h
  |cons y ys ih =>
   rw[List.foldl_cons];refine ih _ ?_;rw[List.length_cons,o8 l p k _ _ (by rw[List.length_tail];omega)]
theorem nR{H:Nat→List Blk}{bo:List Nat}{out:List (List Nat)}{row:List Nat}{q:Nat}{ks ks2:Option (List Nat)}(hb:memB q bo=true)(hq:H q=[.rows 1 (af row) ks2])(hp:dF (af row) ks2):BLent H bo (.rows 1 (am out++[[.osl q 0 0 (af row).length (af row).length]]) ks) (.rows 1 (am (out++[row])) (some [])):=by
 refine .rowsF _ _ _ _ (by simp[am]) fun i r1 hi=>?_;rw[ny] at hi;by_cases e:i<(am out).length
 ·rw[List.getElem?_append_left e] at hi;refine⟨r1,by rw[List.getElem?_append_left e];exact hi,rfl,fun j v1 hj=>⟨v1,hj,.refl _,?_⟩⟩;unfold am at hi;rw[List.getElem?_map,Option.map_eq_some_iff] at hi;obtain⟨x,_,rfl⟩:=hi;cases j with
  |zero=>cases hj;exact⟨rfl,rfl⟩
  |succ j=>simp at hj
 ·have e2:i=(am out).length:=by
   have:=(List.getElem?_eq_some_iff.1 hi).1;rw[List.length_append,List.length_singleton] at this;omega
  subst e2;rw[List.getElem?_append_right (Nat.le_refl _),Nat.sub_self] at hi;cases hi;refine⟨[.osl q 0 0 (af row).length (af row).length],by rw[List.getElem?_append_right (Nat.le_refl _),Nat.sub_self];rfl,rfl,fun j v1 hj=>?_⟩;cases j with
  |zero =>
   cases hj;exact⟨_,rfl,Lent.whole hb hq rfl rfl hp,rfl,rfl⟩
  |succ j=>simp at hj
theorem sF{l:List Table}{p:Pth}(h:aD l p=0):∀(k:Nat) (hv rest:List Nat) (out:List (List Nat)),hv≠[]→hv.length+k=p.steps.length+1→rest.length=k→CombK l p hv.length (fun i=>hv.getD i 0)→(∀i,i<hv.length→cntI l p i (hv.getD i 0)≠0)→out.length+(visL l p k hv).length≤4096 →
  Spec Tryz.prog 141 [.int .i64 (hv.length:Nat),.bp 90 0,.bp 91 0,.bp 92 0,.bp 93 0,.bp 94 0] (visH l p out (hv++rest)) (.tup []) (visH l p (out++visL l p k hv) (hv++iD l p k hv rest))
 | 0,hv,rest,out,hne,hlen,hrl,hc,hn,hout=>by
  obtain rfl:rest=[]:=List.length_eq_zero_iff.1 hrl;have he:visL l p 0 hv=[hv]:=rfl;rw[he] at hout;rw[he,show iD l p 0 hv []=[] from rfl,List.append_nil];rw[List.length_singleton] at hout;have hpl:=fy l p;have hnl:=aQ hv;have hrr:=cH out;have h4:=(aI h).2.1;have sp:=Fa (af hv) (mK hv) (zY hv) (by omega);have hnf:=vY hv;unfold visH;refine gEn env Tryz.func141 fun Γ hN hK hML=>?_;refine gGo ?_;refine gGo ?_;intros;refine gCA [] [(5,50)] [96] sp ?_ (hargs:=by repeat' (first|exact trivial|exact Lent.whole rfl rfl rfl rfl (.inl rfl)|apply And.intro)) (ok:=⟨rfl,rfl,rfl,rfl,rfl,trivial,rfl,(by show(false ||(true&&((af hv).all fun r=>f5 r)&&true))=true;rw[hnf];rfl)⟩);(conv=>whnf);rw[ye,gq];(conv=>whnf);refine gGl ?_;refine Or.inl ?_;(conv=>whnf);refine gGo ?_;refine⟨⟨rfl,rfl⟩,bc (n:=(am out).length+1) (b:=24) (by omega) (by omega),.inl ⟨rfl,rfl,?_⟩⟩;(conv=>whnf);refine gGo ?_;refine W.leG (mp:=[(90,90),(91,91),(92,92),(93,93),(94,94),(95,95),(96,96)]) (bo:=[50]) (st':=⟨[],[(90,[.rows 1 [[.ro (dg l p) 0]] none]),(91,[.rows 1 [[.osl 95 0 0 (am (out++[hv])).length (am (out++[hv])).length]] none]),(92,[.rows 1 [[.osl 96 0 0 (af hv).length (af hv).length]] none]),(93,[.rows 1 [[.sl (byD l p (p.steps.length+1)) false]] none]),(94,[.rows 1 [[.fn 141 [.bp 90 0,.bp 91 0,.bp 92 0,.bp 93 0,.bp 94 0]]] none]),(95,[.rows 1 (am (out++[hv])) (some [])]),(96,[.rows 1 (af hv) (some [])])],[90,91,92,93,94,95,96]⟩)
   (LeG.mk' rfl rfl rfl trivial (.ci 90 (.cons 91 rfl rfl (.refl _) (by rw[cH,cH] at *;rw[List.length_append];rfl) (.ci 92 (.ci 93 (.ci 94 (.cons 95 (b1:=.rows 1 (am (out++[hv])) (some [])) rfl rfl (nR rfl rfl (zZ _ _)) rfl (.ci 96 .nil))))))) rfl rfl (by rw[hK];rfl)) ?_
  (refine gM ?_;conv=>whnf);exact retH rfl (.refl _) rfl rfl rfl ⟨rfl,rfl,rfl,rfl,rfl,rfl,rfl,rfl,rfl,rfl,rfl,rfl,rfl,rfl,trivial⟩
 |k+1,hv,rest,out,hne,hlen,hrl,hc,hn,hout=>by
  have ih:=sF h k;have hpos:0<hv.length:=List.length_pos_iff.2 hne;obtain⟨j,hj⟩:∃j,hv.length=j+1:=⟨hv.length-1,by omega⟩
  have hpl:=fy l p;have h4:=(aI h).2.1;have hpar:=bz p (i:=j) (by omega);have hsf:=cN (aI h).2.2 (show j<p.steps.length by omega);have hx1:=jD (l:=l) (p:=p) (i:=hv.length) (by omega);have hx2:=jD (l:=l) (p:=p) (i:=parI p j) (by omega);have hby:=Fb (l:=l) (p:=p) (k:=p.steps.length+1) (i:=hv.length) hpos (by omega) (by omega);have hbl:=iS l p (p.steps.length+1);have hfr:frN l p (j+1)<(tabN l p (parI p j)).cols.length:=by
   have ht1:=qw (l:=l) (show j<p.steps.length by omega) hsf.old p.steps.length;have:=hsf.fc;show(br p j).fc.toNat<_;rw[show tabN l p (parI p j)=aT l (br p j).ft from ht1];omega
  have hpn:=hn (parI p j) (by omega);have hpl2:=hc.lt (parI p j) (by omega);have hrow:(af (hv++rest))[parI p j]?=some [.int .i64 ((hv.getD (parI p j) 0:Nat):Int)]:=by
   have h1:parI p j<hv.length:=by omega
   unfold af;rw[List.getElem?_map,List.getElem?_append_left h1,List.getD_eq_getElem?_getD,List.getElem?_eq_getElem h1];rfl
  have hnl:=aQ (hv++rest);have hrl2:(hv++rest).length=p.steps.length+1:=by rw[List.length_append];omega
  have spC:=iN (tabN l p (parI p j)) (frN l p (j+1)) hfr;have hvr:=(cq (lP h (i:=parI p j) (by omega))).2 _ (List.getElem_mem hfr);have hcg:=aY (l:=((tabN l p (parI p j)).cols[frN l p (j+1)]).cells) (i:=hv.getD (parI p j) 0) (by omega);have hce:((tabN l p (parI p j)).cols[frN l p (j+1)]).cells[hv.getD (parI p j) 0]'(by omega)=parC l p hv hv.length:=by
   unfold parC ay;rw[hj,Nat.add_sub_cancel];have hlt:hv.getD (parI p j) 0<((tabN l p (parI p j)).cols[frN l p (j+1)]).cells.length:=by omega
   rw[List.getD_eq_getElem?_getD (l:=(tabN l p (parI p j)).cols),List.getElem?_eq_getElem hfr];simp only[Option.getD_some];rw[List.getD_eq_getElem?_getD (l:=((tabN l p (parI p j)).cols[frN l p (j+1)]).cells),List.getElem?_eq_getElem hlt];rfl
  rw[hce] at hcg;clear hce;have hcl:=aF ((tabN l p (parI p j)).cols[frN l p (j+1)]).cells;generalize ((tabN l p (parI p j)).cols[frN l p (j+1)]).cells=cells at *;have hdl:=Cp (bunN l p hv.length (ab (tabN l p hv.length))) (parC l p hv hv.length).text;have hlb:=uT l p hv.length (ab (tabN l p hv.length)) (parC l p hv hv.length).text;have hvis:visL l p (k+1) hv=(byL l p hv.length (parC l p hv hv.length).text (ab (tabN l p hv.length))).flatMap fun y=>visL l p k (hv++[y]):=rfl;have hres:iD l p (k+1) hv rest=(byL l p hv.length (parC l p hv hv.length).text (ab (tabN l p hv.length))).foldl (fun r y=>y::iD l p k (hv++[y]) r.tail) rest:=rfl;rw[hvis] at hout ⊢;rw[hres];have hmem:∀y∈byL l p hv.length (parC l p hv hv.length).text (ab (tabN l p hv.length)),y<ab (tabN l p hv.length)∧cX l p j (hv.getD (parI p j) 0) y=true∧cntI l p hv.length y≠0:=fun y hy=>by
   unfold byL at hy;rw[List.mem_filter,List.mem_range] at hy;obtain⟨hy1,ho⟩:=hy;have hnn:(parC l p hv hv.length).null=false:=by
    cases hb:(parC l p hv hv.length).null with
    |false=>rfl
    |true =>
     exfalso;have h1:=(nt (by omega) hpl2).1 hpn j (by omega) rfl;refine h1 (oN ?_);have h2:=hb;unfold parC at h2;rw[show hv.length-1=j by omega,hj] at h2;exact h2
   unfold onB at ho;simp only[Bool.and_eq_true,Bool.not_eq_true',decide_eq_true_eq] at ho;refine⟨hy1,?_,by omega⟩;have hst:cX l p j (hv.getD (parI p j) 0) y=fitC (parC l p hv hv.length) (ay (tabN l p hv.length) (ownN l p hv.length) y):=by
    unfold cX parC;rw[show hv.length-1=j by omega,hj]
   rw[hst];unfold fitC;rw[hnn,ho.1,ho.2.1];simp
  rw[hlb] at hdl;generalize byL l p hv.length (parC l p hv hv.length).text (ab (tabN l p hv.length))=ys at *;obtain⟨r,hr1,hr2⟩:=hdl;unfold visH;have hpos2:(aH l p p.steps.length hv.length).par=((parI p j:Nat):Int)∧(aH l p p.steps.length hv.length).fr=frN l p (j+1)∧(aH l p p.steps.length (parI p j)).t=tabN l p (parI p j):=by
   rw[hj];exact⟨rfl,rfl,rfl⟩
  obtain⟨q1,q2,q3⟩:=hpos2;generalize aH l p p.steps.length hv.length=nd at *;unfold Nod.rowW at hx1 hx2;rw[q1,q2] at hx1;rw[q3] at hx2;refine gEn env Tryz.func141 fun Γ hN hK hML=>?_;refine gGo ?_;intros;refine al (by simpa using hx1) ?_;(conv=>whnf);refine gGo ?_;refine al (by simpa using hby) ?_;(conv=>whnf);refine gGo ?_;refine al (by simpa using hx2) ?_;(conv=>whnf);refine gGo ?_;(refine⟨_,_,_,cW [] [] [] rfl rfl rfl (by kernel_rfl) (spC) (by refine⟨Lent.row ?_,Lent.refl _,trivial⟩;repeat' (first|exact trivial|exact⟨Lent.refl _,rfl⟩|exact⟨Lent.dead _,rfl⟩|apply And.intro)) rfl ⟨rfl,rfl,rfl,rfl,rfl,by repeat' (first|exact trivial|rfl|apply And.intro),rfl,rfl⟩,?_⟩;conv=>whnf)
  refine g ?_;refine bl (by kernel_rfl) ?_;(conv=>whnf);refine⟨_,rfl,_,hr1,?_⟩;obtain⟨O,hO⟩:∃O:Nat→List (List Nat),O=fun q=>out++(ys.take q).flatMap fun y=>visL l p k (hv++[y]):=⟨_,rfl⟩
  obtain⟨R,hR⟩:∃R:Nat→List Nat,R=fun q=>(ys.take q).foldl (fun r y=>y::iD l p k (hv++[y]) r.tail) rest:=⟨_,rfl⟩
  have hO0:O 0=out:=by rw[hO];simp
  have hR0:R 0=rest:=by rw[hR];rfl
  have hOs:∀(q:Nat) (hq:q<ys.length),O (q+1)=O q++visL l p k (hv++[ys[q]]):=fun q hq=>by
   rw[hO];simp only[List.take_succ_eq_append_getElem hq,List.flatMap_append,List.append_assoc];simp
  have hRs:∀(q:Nat) (hq:q<ys.length),R (q+1)=ys[q]::iD l p k (hv++[ys[q]]) (R q).tail:=fun q hq=>by
   rw[hR];simp only[List.take_succ_eq_append_getElem hq,List.foldl_append,List.foldl_cons,List.foldl_nil]
  have hOe:O ys.length=out++ys.flatMap fun y=>visL l p k (hv++[y]):=by rw[hO];simp
  have hRe:R ys.length=ys.foldl (fun r y=>y::iD l p k (hv++[y]) r.tail) rest:=by rw[hR];simp
  have hRl:∀q,q≤ys.length→(R q).length=k+1:=fun q=>by
   induction q with
   |zero=>intro _;rw[hR0];exact hrl
   |succ q ih2 =>
    intro hq;rw[hRs q (by omega),List.length_cons,o8 l p k _ _ (by rw[List.length_tail,ih2 (by omega)];rfl)]
  have hOl:∀q,q≤ys.length→(O q).length≤4096:=fun q hq=>by
   rw[hO];simp only;have h1:ys.flatMap (fun y=>visL l p k (hv++[y]))=(ys.take q).flatMap (fun y=>visL l p k (hv++[y]))++(ys.drop q).flatMap fun y=>visL l p k (hv++[y]):=by
    rw[←List.flatMap_append,List.take_append_drop]
   rw[h1,List.length_append] at hout;rw[List.length_append];omega
  rw[←hOe,←hRe];rw[show out=O 0 from hO0.symm,show rest=R 0 from hR0.symm] at *;have hyl:=aQ ys;clear hO hR hO0 hR0 hOe hRe hvis hres;rcases hr2 with⟨hix,rfl⟩|⟨jj,hix,rfl⟩
  ·have hys:ys=[]:=by rw[←hlb];exact sD hix
   have hy0:ys.length≤5:=by rw[hys];decide
   (conv=>whnf);refine gGo ?_;refine W.leG (mp:=[(90,90),(91,91),(92,92),(93,93),(94,94),(95,95),(96,96)]) (bo:=[]) (st':=⟨[(0,.int .i64 (hv.length:Nat)),(1,.bp 90 0),(2,.bp 91 0),(3,.bp 92 0),(4,.bp 93 0),(5,.bp 94 0),(52,.sl (af ys) false),(53,.int .i64 (af ys).length),(54,.int .i64 (0:Nat))],[(90,[.rows 1 [[.ro (dg l p) 0]] none]),(91,[.rows 1 [[.osl 95 0 0 (am (O 0)).length (am (O 0)).length]] none]),(92,[.rows 1 [[.osl 96 0 0 (af (hv++R 0)).length (af (hv++R 0)).length]] none]),(93,[.rows 1 [[.sl (byD l p (p.steps.length+1)) false]] none]),(94,[.rows 1 [[.fn 141 [.bp 90 0,.bp 91 0,.bp 92 0,.bp 93 0,.bp 94 0]]] none]),(95,[.rows 1 (am (O 0)) (some [])]),(96,[.rows 1 (af (hv++R 0)) (some [])])],[90,91,92,93,94,95,96]⟩)
    (LeG.mk' rfl rfl rfl (by rw[hys];exact⟨⟨_,.refl _,rfl⟩,⟨_,.refl _,rfl⟩,⟨_,.refl _,rfl⟩,⟨_,.refl _,rfl⟩,⟨_,.refl _,rfl⟩,⟨_,.refl _,rfl⟩,⟨_,.norm _,rfl⟩,⟨_,.refl _,rfl⟩,⟨_,.refl _,rfl⟩,trivial⟩) (.ci 90 (.ci 91 (.ci 92 (.ci 93 (.ci 94 (.ci 95 (.ci 96 .nil))))))) rfl rfl (by rw[hK];rfl)) ?_
   refine W.loopG (fun m st=>∃q:Nat,q≤ys.length∧m=ys.length-q∧st=⟨[(0,.int .i64 (hv.length:Nat)),(1,.bp 90 0),(2,.bp 91 0),(3,.bp 92 0),(4,.bp 93 0),(5,.bp 94 0),(52,.sl (af ys) false),(53,.int .i64 (af ys).length),(54,.int .i64 q)],[(90,[.rows 1 [[.ro (dg l p) 0]] none]),(91,[.rows 1 [[.osl 95 0 0 (am (O q)).length (am (O q)).length]] none]),(92,[.rows 1 [[.osl 96 0 0 (af (hv++R q)).length (af (hv++R q)).length]] none]),(93,[.rows 1 [[.sl (byD l p (p.steps.length+1)) false]] none]),(94,[.rows 1 [[.fn 141 [.bp 90 0,.bp 91 0,.bp 92 0,.bp 93 0,.bp 94 0]]] none]),(95,[.rows 1 (am (O q)) (some [])]),(96,[.rows 1 (af (hv++R q)) (some [])])],[90,91,92,93,94,95,96]⟩)
    ys.length _ ⟨0,by omega,by omega,rfl⟩ gX ?_
   rintro m st ⟨q,hq,rfl,rfl⟩;have hrow2:=aQ (hv++R q);have hRq:=hRl q hq;have hrl3:(hv++R q).length=p.steps.length+1:=by rw[List.length_append];omega
   refine gT (fun hb=>?_) fun hb=>?_
   ·have hlt:q<ys.length:=by omega
    have hyg:=dy hlt;have hym:=hmem _ (List.getElem_mem hlt);have hos:=hOs q hlt;have hrs:=hRs q hlt;have hol:=hOl q hq;have hol1:=hOl (q+1) (by omega);rw[hos,List.length_append] at hol1;have hset:(af (hv++R q)).set hv.length [.int .i64 ((ys[q]:Nat):Int)]=af ((hv++[ys[q]])++(R q).tail):=by
     cases hRc:R q with
     |nil=>rw[hRc] at hRq;simp at hRq
     |cons z zs=>simp[af]
    obtain⟨z,hgi⟩:∃z:Int,(af (hv++R q))[hv.length]?=some [.int .i64 z]:=by
     have h1:hv.length<(hv++R q).length:=by omega
     exact⟨_,dy h1⟩
    have hsp:=ih (hv++[ys[q]]) (R q).tail (O q) (by simp) (by rw[List.length_append,List.length_singleton];omega) (by rw[List.length_tail];omega) (mS hj (by omega) hc hym.1 hym.2.1) (fun i hi=>by
     by_cases e:i=hv.length
     ·subst e;rw[d5];exact hym.2.2
     ·have hi2:i<hv.length:=by rw[List.length_append,List.length_singleton] at hi;omega
      rw[dm hi2];exact hn i hi2) hol1
    have hcast:(((hv++[ys[q]]).length:Nat):Int)=(hv.length:Int)+1:=by rw[List.length_append];rfl
    rw[hcast] at hsp;rw[←hos,show(hv++[ys[q]])++iD l p k (hv++[ys[q]]) (R q).tail=hv++R (q+1) by rw[hrs];simp] at hsp;have hnl3:=aQ ((hv++[ys[q]])++(R q).tail);have hrl4:((hv++[ys[q]])++(R q).tail).length=p.steps.length+1:=by rw[List.length_append,List.length_append,List.length_tail,List.length_singleton];omega
    have hnl4:=aQ (hv++R (q+1));have hrl5:(hv++R (q+1)).length=p.steps.length+1:=by rw[List.length_append,hRl (q+1) (by omega)];omega
    have hle:(af ((hv++[ys[q]])++(R q).tail)).length=(af (hv++R q)).length:=by omega
    unfold visH at hsp;generalize hrw:(hv++[ys[q]])++(R q).tail=row1 at *;generalize ys[q]=y at *;refine gGo ?_;refine al (by simpa using hyg) ?_;(conv=>whnf);refine gGs ?_;refine gA ?_;(refine gE env hN (by kernel_rfl) ?_;conv=>whnf);refine gGs ?_;refine al (by simpa using hgi) ?_;(conv=>whnf);refine gGs ?_;refine W.leG (mp:=[(90,90),(91,91),(92,92),(93,93),(94,94),(95,95),(96,96)]) (bo:=[]) (st':=⟨[(0,.int .i64 (hv.length:Nat)),(1,.bp 90 0),(2,.bp 91 0),(3,.bp 92 0),(4,.bp 93 0),(5,.bp 94 0),(52,.sl (af ys) false),(53,.int .i64 (af ys).length),(54,.int .i64 q)],[(90,[.rows 1 [[.ro (dg l p) 0]] none]),(91,[.rows 1 [[.osl 95 0 0 (am (O q)).length (am (O q)).length]] none]),(92,[.rows 1 [[.osl 96 0 0 (af row1).length (af row1).length]] none]),(93,[.rows 1 [[.sl (byD l p (p.steps.length+1)) false]] none]),(94,[.rows 1 [[.fn 141 [.bp 90 0,.bp 91 0,.bp 92 0,.bp 93 0,.bp 94 0]]] none]),(95,[.rows 1 (am (O q)) (some [])]),(96,[.rows 1 (af row1) (some [])])],[90,91,92,93,94,95,96]⟩)
     (LeG.mq (.ci 90 (.ci 91 (.cons 92 rfl rfl (.refl _) (by rw[hle];rfl) (.ci 93 (.ci 94 (.ci 95 (.cons 96 rfl rfl (.refl _) (by rw[←hset,show(0+((hv.length:Nat):Int).toNat)=hv.length by simp];rfl) .nil)))))))) ?_
    refine gGo ?_;(refine gCA [(90,90),(91,91),(92,92),(93,93),(94,94),(95,95),(96,96)] [] [] (hsp) ?_;conv=>whnf);refine gGo ?_;refine⟨_,_,?_,⟨q+1,by omega,rfl,rfl⟩,[(90,90),(91,91),(92,92),(93,93),(94,94),(95,95),(96,96)],[],[],.mq (.ci 90 (.ci 91 (.ci 92 (.ci 93 (.ci 94 (.ci 95 (.ci 96 .nil))))))) ⟩;omega
   ·have hqe:q=ys.length:=by omega
    rw[hqe];refine gGo ?_;exact re rfl (.refl _) rfl rfl rfl ⟨rfl,rfl,rfl,rfl,rfl,rfl,rfl,rfl,rfl,rfl,rfl,rfl,rfl,rfl,trivial⟩
  ·(conv=>whnf);refine gGo ?_;intros;refine W.loopG (fun m st=>∃q:Nat,q≤ys.length∧m=ys.length-q∧st=⟨[(0,.int .i64 (hv.length:Nat)),(1,.bp 90 0),(2,.bp 91 0),(3,.bp 92 0),(4,.bp 93 0),(5,.bp 94 0),(52,.sl (af ys) false),(53,.int .i64 (af ys).length),(54,.int .i64 q)],[(90,[.rows 1 [[.ro (dg l p) 0]] none]),(91,[.rows 1 [[.osl 95 0 0 (am (O q)).length (am (O q)).length]] none]),(92,[.rows 1 [[.osl 96 0 0 (af (hv++R q)).length (af (hv++R q)).length]] none]),(93,[.rows 1 [[.sl (byD l p (p.steps.length+1)) false]] none]),(94,[.rows 1 [[.fn 141 [.bp 90 0,.bp 91 0,.bp 92 0,.bp 93 0,.bp 94 0]]] none]),(95,[.rows 1 (am (O q)) (some [])]),(96,[.rows 1 (af (hv++R q)) (some [])])],[90,91,92,93,94,95,96]⟩)
    ys.length _ ⟨0,by omega,by omega,rfl⟩ gX ?_
   rintro m st ⟨q,hq,rfl,rfl⟩;have hrow2:=aQ (hv++R q);have hRq:=hRl q hq;have hrl3:(hv++R q).length=p.steps.length+1:=by rw[List.length_append];omega
   refine gT (fun hb=>?_) fun hb=>?_
   ·have hlt:q<ys.length:=by omega
    have hyg:=dy hlt;have hym:=hmem _ (List.getElem_mem hlt);have hos:=hOs q hlt;have hrs:=hRs q hlt;have hol:=hOl q hq;have hol1:=hOl (q+1) (by omega);rw[hos,List.length_append] at hol1;have hset:(af (hv++R q)).set hv.length [.int .i64 ((ys[q]:Nat):Int)]=af ((hv++[ys[q]])++(R q).tail):=by
     cases hRc:R q with
     |nil=>rw[hRc] at hRq;simp at hRq
     |cons z zs=>simp[af]
    obtain⟨z,hgi⟩:∃z:Int,(af (hv++R q))[hv.length]?=some [.int .i64 z]:=by
     have h1:hv.length<(hv++R q).length:=by omega
     exact⟨_,dy h1⟩
    have hsp:=ih (hv++[ys[q]]) (R q).tail (O q) (by simp) (by rw[List.length_append,List.length_singleton];omega) (by rw[List.length_tail];omega) (mS hj (by omega) hc hym.1 hym.2.1) (fun i hi=>by
     by_cases e:i=hv.length
     ·subst e;rw[d5];exact hym.2.2
     ·have hi2:i<hv.length:=by rw[List.length_append,List.length_singleton] at hi;omega
      rw[dm hi2];exact hn i hi2) hol1
    have hcast:(((hv++[ys[q]]).length:Nat):Int)=(hv.length:Int)+1:=by rw[List.length_append];rfl
    rw[hcast] at hsp;rw[←hos,show(hv++[ys[q]])++iD l p k (hv++[ys[q]]) (R q).tail=hv++R (q+1) by rw[hrs];simp] at hsp;have hnl3:=aQ ((hv++[ys[q]])++(R q).tail);have hrl4:((hv++[ys[q]])++(R q).tail).length=p.steps.length+1:=by rw[List.length_append,List.length_append,List.length_tail,List.length_singleton];omega
    have hnl4:=aQ (hv++R (q+1));have hrl5:(hv++R (q+1)).length=p.steps.length+1:=by rw[List.length_append,hRl (q+1) (by omega)];omega
    have hle:(af ((hv++[ys[q]])++(R q).tail)).length=(af (hv++R q)).length:=by omega
    unfold visH at hsp;generalize hrw:(hv++[ys[q]])++(R q).tail=row1 at *;generalize ys[q]=y at *;refine gGo ?_;refine al (by simpa using hyg) ?_;(conv=>whnf);refine gGs ?_;refine gA ?_;(refine gE env hN (by kernel_rfl) ?_;conv=>whnf);refine gGs ?_;refine al (by simpa using hgi) ?_;(conv=>whnf);refine gGs ?_;refine W.leG (mp:=[(90,90),(91,91),(92,92),(93,93),(94,94),(95,95),(96,96)]) (bo:=[]) (st':=⟨[(0,.int .i64 (hv.length:Nat)),(1,.bp 90 0),(2,.bp 91 0),(3,.bp 92 0),(4,.bp 93 0),(5,.bp 94 0),(52,.sl (af ys) false),(53,.int .i64 (af ys).length),(54,.int .i64 q)],[(90,[.rows 1 [[.ro (dg l p) 0]] none]),(91,[.rows 1 [[.osl 95 0 0 (am (O q)).length (am (O q)).length]] none]),(92,[.rows 1 [[.osl 96 0 0 (af row1).length (af row1).length]] none]),(93,[.rows 1 [[.sl (byD l p (p.steps.length+1)) false]] none]),(94,[.rows 1 [[.fn 141 [.bp 90 0,.bp 91 0,.bp 92 0,.bp 93 0,.bp 94 0]]] none]),(95,[.rows 1 (am (O q)) (some [])]),(96,[.rows 1 (af row1) (some [])])],[90,91,92,93,94,95,96]⟩)
     (LeG.mq (.ci 90 (.ci 91 (.cons 92 rfl rfl (.refl _) (by rw[hle];rfl) (.ci 93 (.ci 94 (.ci 95 (.cons 96 rfl rfl (.refl _) (by rw[←hset,show(0+((hv.length:Nat):Int).toNat)=hv.length by simp];rfl) .nil)))))))) ?_
    refine gGo ?_;(refine gCA [(90,90),(91,91),(92,92),(93,93),(94,94),(95,95),(96,96)] [] [] (hsp) ?_;conv=>whnf);refine gGo ?_;refine⟨_,_,?_,⟨q+1,by omega,rfl,rfl⟩,[(90,90),(91,91),(92,92),(93,93),(94,94),(95,95),(96,96)],[],[],.mq (.ci 90 (.ci 91 (.ci 92 (.ci 93 (.ci 94 (.ci 95 (.ci 96 .nil))))))) ⟩;omega
   ·have hqe:q=ys.length:=by omega
    rw[hqe];refine gGo ?_;exact re rfl (.refl _) rfl rfl rfl ⟨rfl,rfl,rfl,rfl,rfl,rfl,rfl,rfl,rfl,rfl,rfl,rfl,rfl,rfl,trivial⟩
def colW(q:Nat)(c:Column):List V:=[.str c.name,.osl 902 q 0 c.cells.length c.cells.length]
def cD(cols:List Column):List (List V):=cols.mapIdx colW
theorem eP(cols:List Column):(cD cols).length=cols.length:=by simp[cD]
theorem lQ{cols:List Column}{i:Nat}(h:i<cols.length):(cD cols)[i]?=some (colW i cols[i]):=by simp[cD,h]
def colF(cols:List Column)(i:Nat):Blk:=.rows 2 (aj (match cols[i]? with|some c=>c.cells|none=>[])) (some [])
theorem eu(cols:List Column)(n:Nat):∀b∈famL n (colF cols),b.famB=true:=oB fun i _=>rfl
theorem yf{cols:List Column}{i:Nat}(h:i<cols.length):colF cols i=.rows 2 (aj cols[i].cells) (some []):=by unfold colF;rw[List.getElem?_eq_getElem h]
def addC(cols:List Column)(k:Nat)(c:Cell):List Column:=cols.modify k fun x=>{ x with cells:=x.cells++[c] }
theorem sG(cols:List Column)(k:Nat)(c:Cell):(addC cols k c).length=cols.length:=by simp[addC]
theorem Fc{cols:List Column}{k:Nat}{c:Cell}(h:k<cols.length){n:Nat}(hn:n=(cols[k]).cells.length+1):(cD cols).set k [.str (cols[k]).name,.osl 902 k 0 n n]=cD (addC cols k c):=by
 subst hn;refine List.ext_getElem? fun i=>?_;rw[List.getElem?_set];by_cases e:k=i
 ·subst e;simp[cD,addC,colW,h]
 ·simp only[cD,addC,if_neg e,List.getElem?_mapIdx,List.getElem?_modify];simp[e]
theorem FE{cols:List Column}{k:Nat}{c:Cell}(h:k<cols.length)(i:Nat):colF (addC cols k c) i=if i=k then .rows 2 (aj (cols[k].cells++[c])) (some []) else colF cols i:=by
 unfold colF addC;rw[List.getElem?_modify];by_cases e:i=k
 ·subst e;simp[h]
 ·rw[if_neg e];have e2:¬k=i:=Ne.symm e;cases cols[i]?<;>simp[e2]
theorem yg{cols:List Column}{i q:Nat}{r:List V}{v:V}(hi:(cD cols)[i]?=some r)(hq:r[q]?=some v):∀s∈v.sites,s∈[902]:=fun s hs=>by
 have hlt:=(List.getElem?_eq_some_iff.1 hi).1;rw[eP] at hlt;rw[lQ hlt] at hi;cases hi
 match q,hq with
 | 0,hq=>cases hq;cases hs
 | 1,hq=>cases hq;simpa[V.sites] using hs
 |q+2,hq=>simp[colW] at hq
theorem Es(l:List Table)(p:Pth)(k:Nat)(hk:k≤1):byD l p k=List.replicate (p.steps.length+1) [.nilm]:=by
 unfold byD;apply List.ext_getElem?;intro q;rw[List.getElem?_replicate,List.getElem?_map];by_cases h:q<p.steps.length+1
 ·rw[if_pos h,List.getElem?_range h];simp only[Option.map_some];rw[if_neg (by omega)]
 ·rw[if_neg h,List.getElem?_eq_none (by simp;omega)];rfl
theorem vZ{l:List Table}{p:Pth}{k i:Nat}(h:i<p.steps.length+1):(byD l p k)[i]?=some (if 0<i∧i<k then [.dmap (mkD (datE (bunN l p i (ab (tabN l p i)))))] else [.nilm]):=by
 unfold byD;rw[List.getElem?_map,List.getElem?_range h];rfl
theorem nS{l:List Table}{p:Pth}{k i j:Nat}{r:List V}{v:V}(hi:(byD l p k)[i]?=some r)(hj:r[j]?=some v):v.sites=[]∧v.one=true∧j=0:=by
 have hlt:=(List.getElem?_eq_some_iff.1 hi).1;rw[iS] at hlt;rw[vZ hlt] at hi;cases hi;split at hj
 all_goals
  cases j with
  |zero=>cases hj;exact⟨rfl,rfl,rfl⟩
  |succ j=>simp at hj
theorem FF{l:List Table}{p:Pth}{k i n d:Nat}{ks:Option (List Nat)}(hd:34≠d):BGat d 200 n (.rows 1 ((byD l p k).set i [.omap 34 0]) ks) (.rows 1 ((byD l p k).set i [.omap 34 0]) (some [34])):=by
 refine .rows 1 _ _ _ _ rfl fun j r1 hj=>⟨r1,hj,?_,fun l' hl v hv s hs=>?_⟩
 ·rw[List.getElem?_set] at hj;split at hj
  ·split at hj
   ·cases hj;simp[gatL,V.gat,hd]
   ·cases hj
  ·refine(jl _ ?_).symm;rw[bP,List.flatMap_eq_nil_iff];intro v hv;obtain⟨q,hq⟩:=List.getElem?_of_mem hv;exact(nS hj hq).1
 ·cases hl;rw[List.getElem?_set] at hj;split at hj
  ·split at hj
   ·cases hj;rw[List.mem_singleton.1 hv] at hs;simpa[V.sites] using hs
   ·cases hj
  ·obtain⟨q,hq⟩:=List.getElem?_of_mem hv;rw[(nS hj hq).1] at hs;cases hs
theorem Fd{H:Nat→List Blk}{bo:List Nat}{l:List Table}{p:Pth}{i c:Nat}{ks ks2:Option (List Nat)}(hi:i<p.steps.length)(hb:memB 34 bo=true)(hq:H 34=[.map (datE (bunN l p (i+1) (ab (tabN l p (i+1))))) c ks2]) :
  BLent H bo (.rows 1 ((byD l p (i+1)).set (i+1) [.omap 34 0]) ks) (.rows 1 (byD l p (i+2)) (some [])):=by
 refine .rowsF _ _ _ _ (by rw[List.length_set,iS,iS]) fun j r1 hj=>?_;have hlt:=(List.getElem?_eq_some_iff.1 hj).1;rw[iS] at hlt;have hj0:=hj;rw[vZ hlt] at hj;rw[List.getElem?_set,iS,vZ hlt];by_cases e:i+1=j
 ·subst e;rw[if_pos (by omega)] at hj;cases hj;rw[if_pos rfl,if_pos hlt];refine⟨[.omap 34 0],rfl,rfl,fun q v1 hv=>?_⟩;cases q with
  |succ q=>simp at hv
  |zero =>
   cases hv;exact⟨.omap 34 0,rfl,.omapF 34 0 _ c ks2 hb (by rw[hq];rfl) (Cr _ _),rfl,rfl⟩
 ·rw[if_neg e];have e2:(if 0<j∧j<i+1 then [V.dmap (mkD (datE (bunN l p j (ab (tabN l p j)))))] else [.nilm])=r1:=by
   rw[←Option.some.inj hj];by_cases h1:0<j∧j<i+1
   ·rw[if_pos h1,if_pos (by omega)]
   ·rw[if_neg h1,if_neg (by omega)]
  rw[e2];exact⟨r1,rfl,rfl,fun q v1 hv=>⟨v1,hv,.refl _,(nS hj0 hv).2.1,(nS hj0 hv).1⟩⟩
theorem z8(R:List Nod):bA (aw R) 9:=by
 unfold bA aw;intro r hr;obtain⟨c,_,rfl⟩:=List.mem_map.1 hr;rfl
theorem Ct(l:List Table)(p:Pth)(i n:Nat):bunN l p i (n+1)=if(!(ay (tabN l p i) (ownN l p i) n).null&&decide (0<cntI l p i n))=true then addB (bunN l p i n) (ay (tabN l p i) (ownN l p i) n).text n else bunN l p i n:=rfl
theorem Aa{l:List Table}{p:Pth}(h:aD l p=0)(htot:(a6 l p).length≤4096):Spec Tryz.prog 92 [.ro (dg l p) 0] [] (.osl 95 0 0 (am (a6 l p)).length (am (a6 l p)).length) [(95,.rows 1 (am (a6 l p)) (some []))]:=by
 have hpl:=fy l p;have h4:=(aI h).2.1;have hbz:=Es l p 1 (by omega);have hdl:((aw (aV l p)).drop 1).length=p.steps.length:=by rw[List.length_drop];omega
 refine gEn env Tryz.func92 fun Γ hN hK hML=>?_;refine gGo ?_;intros;refine And.intro ⟨by omega,by omega,(by show(((aw (aV l p)).length:Nat):Int)*8≤_;omega),by omega⟩ ?_;rw[Int.toNat_natCast];(conv=>whnf);refine gGo ?_;refine And.intro (z8 _) ?_;rw[Int.toNat_natCast,List.take_length];(conv=>whnf);refine gGo ?_;intros;obtain⟨N,hNN⟩:∃N,N=(aw (aV l p)).length:=⟨_,rfl⟩
 refine W.loopG (fun m st=>∃i:Nat,i≤p.steps.length∧m=p.steps.length-i∧st=⟨[(1,.bp 1 0),(3,.bp 3 0),(24,.sl ((aw (aV l p)).drop 1) false),(25,.int .i64 (((aw (aV l p)).drop 1).length:Nat)),(26,.int .i64 i)],[(1,[.rows 1 [[.ro (dg l p) 0]] none]),(3,[.rows 1 [[.osl 19 0 0 N N]] none]),(19,[.rows 1 (byD l p (i+1)) (some [])])],[1,3,19]⟩)
  p.steps.length _ ⟨0,by omega,by omega,rfl⟩ ⟨[(1,1),(3,3),(19,19)],[],[],.mq (.ci 1 (.cons 3 rfl rfl (.refl _) (by rw[hNN];rfl) (.cons 19 rfl rfl (.refl _) (by rw[show byD l p (0+1)=byD l p 1 from rfl,hbz,←hpl];rfl) .nil)))⟩ ?_
 rintro m st ⟨i,hi,rfl,rfl⟩;have hbl:=iS l p (i+1);refine gT (fun hb=>?_) fun hb=>?_
 ·have hlt:i<p.steps.length:=by omega
  have hx:((aw (aV l p)).drop 1)[i]?=some ((aH l p p.steps.length (i+1)).rowW (.sl (af (bY p p.steps.length (i+1))) false) (.sl (aq .i64 (aK l p (i+1))) false) (.dmap (mkD (sumE (jo l p (i+1)))))):=by
   rw[List.getElem?_drop,show 1+i=i+1 by omega];exact jD (by omega)
  have hby:=vZ (l:=l) (p:=p) (k:=i+1) (i:=i+1) (by omega);rw[if_neg (by omega)] at hby;have hcl:=bu .i64 (aK l p (i+1));rw[cA] at hcl;change _=ab (tabN l p (i+1)) at hcl;have hr4:=(cq (lP h (i:=i+1) (by omega))).1;have hcg:∀y,y<ab (tabN l p (i+1))→(aq .i64 (aK l p (i+1)))[y]?=some [.int .i64 (cntI l p (i+1) y)]:=fun y hy=>o7 hy;have hsf:=cN (aI h).2.2 hlt;have hown:ownN l p (i+1)<(tabN l p (i+1)).cols.length:=by
   have:=hsf.tc;show(br p i).tc.toNat<_;rw[show tabN l p (i+1)=aT l (br p i).tt from rfl];omega
  have spC:=iN (tabN l p (i+1)) (ownN l p (i+1)) hown;have hvr:=(cq (lP h (i:=i+1) (by omega))).2 _ (List.getElem_mem hown);have hcc:∀y,y<ab (tabN l p (i+1))→(aj ((tabN l p (i+1)).cols[ownN l p (i+1)]).cells)[y]?=some (ay (tabN l p (i+1)) (ownN l p (i+1)) y).row:=fun y hy=>by
   rw[aY (by omega)];unfold ay;have hlt2:y<((tabN l p (i+1)).cols[ownN l p (i+1)]).cells.length:=by omega
   rw[List.getD_eq_getElem?_getD (l:=(tabN l p (i+1)).cols),List.getElem?_eq_getElem hown];simp only[Option.getD_some];rw[List.getD_eq_getElem?_getD (l:=((tabN l p (i+1)).cols[ownN l p (i+1)]).cells),List.getElem?_eq_getElem hlt2];rfl
  have hcel:=aF ((tabN l p (i+1)).cols[ownN l p (i+1)]).cells;generalize ((tabN l p (i+1)).cols[ownN l p (i+1)]).cells=cells at *;have ht:(aH l p p.steps.length (i+1)).t=tabN l p (i+1):=rfl;have ho:(aH l p p.steps.length (i+1)).own=ownN l p (i+1):=rfl;generalize aH l p p.steps.length (i+1)=nd at *;unfold Nod.rowW at hx;rw[ht,ho] at hx;generalize aq .i64 (aK l p (i+1))=cs at *;have hsnoc:=fun n=>Ct l p (i+1) n;have hlook:=fun n s=>uT l p (i+1) n s;have hblen:∀n,(bunN l p (i+1) n).length≤n:=fun n=>yd _ _ n;have hlble:∀n s,(dq (bunN l p (i+1) n) s).length≤n:=fun n s=>Er _ _ _ _;have hset:((byD l p (i+1)).set (i+1) [.omap 34 0]).length=N:=by rw[List.length_set];omega
  have hsetg:((byD l p (i+1)).set (i+1) [.omap 34 0])[i+1]?=some [.omap 34 0]:=by rw[List.getElem?_set,if_pos rfl,if_pos (by omega)]
  have hbun0:bunN l p (i+1) 0=[]:=rfl;(refine g ?_;intros);refine W.ref (Ref.reserve 200 2 1 rfl) ?_;refine W.ref (Ref.rekm 34 [200] rfl (fun i b k v hi=>by simp at hi) (fun q hq=>by simp at hq;subst hq;rfl)) ?_;refine W.leG (mp:=[(1,1),(3,3),(19,19),(5,5),(34,34),(200,200)]) (bo:=[]) (st':=⟨[(1,.bp 1 0),(3,.bp 3 0),(24,.sl ((aw (aV l p)).drop 1) false),(25,.int .i64 (((aw (aV l p)).drop 1).length:Nat)),(26,.int .i64 i),(4,.int .i64 i),(5,.bp 5 0),(37,.sl cs false),(38,.int .i64 cs.length),(39,.int .i64 (0:Nat))],[(1,[.rows 1 [[.ro (dg l p) 0]] none]),(3,[.rows 1 [[.osl 19 0 0 N N]] none]),(19,[.rows 1 ((byD l p (i+1)).set (i+1) [.omap 34 0]) (some [34])]),(5,[.rows 9 [[.int .i64 (tabN l p (i+1)).id,.str (tabN l p (i+1)).name,.sl (ai (tabN l p (i+1)).cols) false,.int .i64 nd.par,.int .i64 nd.fr,.int .i64 (ownN l p (i+1)),.sl (af (bY p p.steps.length (i+1))) false,.sl cs false,.dmap (mkD (sumE (jo l p (i+1))))]] none]),(34,[.map (ownE 200 (([]:Bun))) (([]:Bun)).length (some [200])]),(200,ownF [])],[1,3,19,5,34,200]⟩)
   (LeG.mq (.ci 1 (.ci 3 (.cons 19 rfl rfl (.refl _) ?_ (.ci 5 (.ci 34 (.fam 200 rfl (by show _=famL 2 _;unfold famL;rfl) (iC _) .nil))))))) ?_
  ·rw[show(0+((i:Int)+1).toNat)=i+1 by omega];rfl
  refine W.loopG (fun m st=>∃y:Nat,y≤ab (tabN l p (i+1))∧m=ab (tabN l p (i+1))-y∧st=⟨[(1,.bp 1 0),(3,.bp 3 0),(24,.sl ((aw (aV l p)).drop 1) false),(25,.int .i64 (((aw (aV l p)).drop 1).length:Nat)),(26,.int .i64 i),(4,.int .i64 i),(5,.bp 5 0),(37,.sl cs false),(38,.int .i64 cs.length),(39,.int .i64 y)],[(1,[.rows 1 [[.ro (dg l p) 0]] none]),(3,[.rows 1 [[.osl 19 0 0 N N]] none]),(19,[.rows 1 ((byD l p (i+1)).set (i+1) [.omap 34 0]) (some [34])]),(5,[.rows 9 [[.int .i64 (tabN l p (i+1)).id,.str (tabN l p (i+1)).name,.sl (ai (tabN l p (i+1)).cols) false,.int .i64 nd.par,.int .i64 nd.fr,.int .i64 (ownN l p (i+1)),.sl (af (bY p p.steps.length (i+1))) false,.sl cs false,.dmap (mkD (sumE (jo l p (i+1))))]] none]),(34,[.map (ownE 200 (bunN l p (i+1) y)) (bunN l p (i+1) y).length (some [200])]),(200,ownF (bunN l p (i+1) y))],[1,3,19,5,34,200]⟩)
   (ab (tabN l p (i+1))) _ ⟨0,by omega,by omega,rfl⟩ ⟨[(1,1),(3,3),(19,19),(5,5),(34,34),(200,200)],[],[],.mq (.ci 1 (.ci 3 (.ci 19 (.ci 5 (.cons 34 rfl rfl (.refl _) (rfl) (.fam 200 rfl (rfl) (iC _) .nil))))))⟩ ?_
  rintro m st ⟨y,hy,rfl,rfl⟩;refine gT (fun hb=>?_) fun hb=>?_
  ·have hyl:y<ab (tabN l p (i+1)):=by omega
   have hg1:=hcg y hyl;have hg2:=hcc y hyl;have hsn:=hsnoc y;have hlk:=hlble y (ay (tabN l p (i+1)) (ownN l p (i+1)) y).text;have hbn:=hblen y;have hcb:=mT h (i:=i+1) (by omega) hyl;generalize bunN l p (i+1) y=T at *;generalize ay (tabN l p (i+1)) (ownN l p (i+1)) y=x at *;generalize cntI l p (i+1) y=cnt at *;refine gGo ?_;refine al (by simpa using hg1) ?_;(conv=>whnf);refine gGo ?_;(refine⟨_,_,_,cW [] [] [] rfl rfl rfl (by kernel_rfl) (spC) (by refine⟨Lent.row ?_,Lent.refl _,trivial⟩;repeat' (first|exact trivial|exact⟨Lent.refl _,rfl⟩|exact⟨Lent.dead _,rfl⟩|apply And.intro)) rfl ⟨rfl,rfl,rfl,rfl,rfl,by repeat' (first|exact trivial|rfl|apply And.intro),rfl,rfl⟩,?_⟩;conv=>whnf)
   refine g ?_;cases hnull:x.null with
   |true =>
    rw[if_neg (by rw[hnull];simp)] at hsn;(conv=>whnf);refine gGo ?_;refine⟨_,_,?_,⟨y+1,by omega,rfl,rfl⟩,[(1,1),(3,3),(19,19),(5,5),(34,34),(200,200)],[],[],.mq (.ci 1 (.ci 3 (.ci 19 (.ci 5 (.cons 34 rfl rfl (.refl _) (by rw[hsn];rfl) (.fam 200 rfl (by rw[hsn];rfl) (iC _) .nil))))))⟩;omega
   |false =>
    rw[hnull,Bool.not_false,Bool.true_and] at hsn;(conv=>whnf);refine gGo ?_;by_cases hpos:0<cnt
    ·rw[decide_eq_true hpos,if_pos rfl] at hsn;refine gGo ?_;refine al (by rw[show(0+((i:Int)+1).toNat)=i+1 by omega];exact hsetg) ?_;(conv=>whnf);refine gGo ?_;refine al (by rw[show(0+((i:Int)+1).toNat)=i+1 by omega];exact hsetg) ?_;(conv=>whnf);refine gGo ?_;refine bl (by kernel_rfl) ?_;(conv=>whnf);have ha:=E9 200 T x.text;refine⟨_,ha,?_⟩;cases hix:ixS x.text (aL T) with
     |none =>
      rw[hix] at ha;have hgt:=fun ks=>Ep (i:=y) (d:=75) (F:=200) (c1:=T.length+1) (by decide) hix rfl ks;have hfn:=Eo (i:=y) hix;have hfl:=Ek T;have hl1:(addB T x.text y).length=T.length+1:=by rw[jC hix];simp
      (conv=>whnf);refine gGo ?_;refine⟨ao rfl au,bc (n:=1) (b:=8) (by decide) (by decide),Or.inl ?_⟩;(conv=>whnf);refine gGo ?_;refine⟨_,ha,?_⟩;(conv=>whnf);refine gGs ?_;refine W.ref (Ref.gather 75 200 (b:=.rows 1 [[.int .i64 y]] (some [])) (L:=ownF T) (hp:=[(1,[.rows 1 [[.ro (dg l p) 0]] none]),(3,[.rows 1 [[.osl 19 0 0 N N]] none]),(19,[.rows 1 ((byD l p (i+1)).set (i+1) [.omap 34 0]) (some [34])]),(5,[.rows 9 [[.int .i64 (tabN l p (i+1)).id,.str (tabN l p (i+1)).name,.sl (ai (tabN l p (i+1)).cols) false,.int .i64 nd.par,.int .i64 nd.fr,.int .i64 (ownN l p (i+1)),.sl (af (bY p p.steps.length (i+1))) false,.sl cs false,.dmap (mkD (sumE (jo l p (i+1))))]] none]),(34,[.map (ownE 200 (addB T x.text y)) (T.length+1) (some [200])])])
       (s':=⟨[(1,.bp 1 0),(3,.bp 3 0),(24,.sl ((aw (aV l p)).drop 1) false),(25,.int .i64 (((aw (aV l p)).drop 1).length:Nat)),(26,.int .i64 i),(4,.int .i64 i),(5,.bp 5 0),(37,.sl cs false),(38,.int .i64 cs.length),(39,.int .i64 y)],[(200,ownF T++[.rows 1 [[.int .i64 y]] (some [])]),(1,[.rows 1 [[.ro (dg l p) 0]] none]),(3,[.rows 1 [[.osl 19 0 0 N N]] none]),(19,[.rows 1 ((byD l p (i+1)).set (i+1) [.omap 34 0]) (some [34])]),(5,[.rows 9 [[.int .i64 (tabN l p (i+1)).id,.str (tabN l p (i+1)).name,.sl (ai (tabN l p (i+1)).cols) false,.int .i64 nd.par,.int .i64 nd.fr,.int .i64 (ownN l p (i+1)),.sl (af (bY p p.steps.length (i+1))) false,.sl cs false,.dmap (mkD (sumE (jo l p (i+1))))]] none]),(34,[.map (ownE 200 (addB T x.text y)) (T.length+1) (some [200])])],_⟩)
       rfl rfl rfl rfl rfl (iC _) rfl (by repeat' (first|exact trivial|apply And.intro|rfl))
       ⟨⟨rfl,rfl,_,_,rfl,rfl,one_gat rfl,rfl⟩,⟨rfl,rfl,_,_,rfl,rfl,one_gat rfl,rfl⟩,⟨rfl,rfl,_,_,rfl,rfl,FF (by decide),rfl⟩,⟨rfl,rfl,_,_,rfl,rfl,one_gat rfl,rfl⟩,⟨rfl,rfl,_,_,rfl,rfl,(by rw[hfl];exact hgt _),rfl⟩,trivial⟩ rfl (by rw[hK];rfl)) ?_
      refine gGo ?_;refine⟨_,_,?_,⟨y+1,by omega,rfl,rfl⟩,[(1,1),(3,3),(19,19),(5,5),(34,34),(200,200)],[],[],.mq (.ci 1 (.ci 3 (.ci 19 (.ci 5 (.cons 34 rfl rfl (.refl _) (by rw[hsn,hl1];rfl) (.fam 200 rfl (by rw[hsn,←hfn];rfl) (iC _) .nil))))))⟩;omega
     |some q =>
      rw[hix] at ha;have hfk:=yc (nQ hix);have hse:=fun n (hn:n=(dq T x.text).length+1)=>Em (F:=200) (i:=y) hix hn;have hsf:=En (i:=y) hix;have hnl:=aQ (dq T x.text);have hl1:(addB T x.text y).length=T.length:=by rw[lO hix];simp
      (conv=>whnf);refine gGo ?_;generalize hO:cU _ 200 (q+2)=O;have hO2:O=some (1,af (dq T x.text),some []):=by rw[←hO];exact fj hfk
      subst hO2;clear hO;(conv=>whnf);refine⟨⟨ao rfl au,by omega⟩,bc (n:=(dq T x.text).length+1) (b:=8) (by omega) (by omega),.inl ⟨rfl,rfl,?_⟩⟩;(conv=>whnf);refine gGo ?_;refine⟨_,ha,?_⟩;(conv=>whnf);refine gGs ?_;refine W.ref (Ref.rekm' 34 (es1:=ownE 200 (addB T x.text y)) [200] rfl (by rw[←hse _ rfl];rfl) zW (fun q hq=>by simp at hq;subst hq;rfl)) ?_;refine gGo ?_;refine⟨_,_,?_,⟨y+1,by omega,rfl,rfl⟩,[(1,1),(3,3),(19,19),(5,5),(34,34),(200,200)],[],[],.mq (.ci 1 (.ci 3 (.ci 19 (.ci 5 (.cons 34 rfl rfl (.refl _) (by rw[hsn,hl1];rfl) (.fam 200 rfl (by rw[hsn,←hsf];unfold lisB;rw[show af (dq T x.text++[y])=af (dq T x.text)++[[.int .i64 (y:Int)]] by simp[af]];rfl) (iC _) .nil))))))⟩;omega
    ·rw[decide_eq_false hpos,if_neg (by decide)] at hsn;refine gGo ?_;refine⟨_,_,?_,⟨y+1,by omega,rfl,rfl⟩,[(1,1),(3,3),(19,19),(5,5),(34,34),(200,200)],[],[],.mq (.ci 1 (.ci 3 (.ci 19 (.ci 5 (.cons 34 rfl rfl (.refl _) (by rw[hsn];rfl) (.fam 200 rfl (by rw[hsn];rfl) (iC _) .nil))))))⟩;omega
  ·have hye:y=ab (tabN l p (i+1)):=by omega
   rw[hye];refine gA ?_;refine gD rfl ?_;refine gG ?_;(conv=>whnf);refine W.leG (mp:=[(1,1),(3,3),(19,19),(34,34)]) (bo:=[200]) (st':=⟨[(1,.bp 1 0),(3,.bp 3 0),(24,.sl ((aw (aV l p)).drop 1) false),(25,.int .i64 (((aw (aV l p)).drop 1).length:Nat)),(26,.int .i64 i)],[(1,[.rows 1 [[.ro (dg l p) 0]] none]),(3,[.rows 1 [[.osl 19 0 0 N N]] none]),(19,[.rows 1 ((byD l p (i+1)).set (i+1) [.omap 34 0]) (some [34])]),(34,[.map (datE (bunN l p (i+1) (ab (tabN l p (i+1))))) (bunN l p (i+1) (ab (tabN l p (i+1)))).length (some [])])],[1,3,19,34]⟩)
    (LeG.mq (.ci 1 (.ci 3 (.ci 19 (.cons 34 (b1:=.map (datE (bunN l p (i+1) (ab (tabN l p (i+1))))) (bunN l p (i+1) (ab (tabN l p (i+1)))).length (some [])) rfl rfl (Cq rfl rfl) rfl .nil))))) ?_
   refine W.leG (mp:=[(1,1),(3,3),(19,19)]) (bo:=[34]) (st':=⟨[(1,.bp 1 0),(3,.bp 3 0),(24,.sl ((aw (aV l p)).drop 1) false),(25,.int .i64 (((aw (aV l p)).drop 1).length:Nat)),(26,.int .i64 i)],[(1,[.rows 1 [[.ro (dg l p) 0]] none]),(3,[.rows 1 [[.osl 19 0 0 N N]] none]),(19,[.rows 1 (byD l p (i+2)) (some [])])],[1,3,19]⟩)
    (LeG.mq (.ci 1 (.ci 3 (.cons 19 (b1:=.rows 1 (byD l p (i+2)) (some [])) rfl rfl (Fd hlt rfl rfl) rfl .nil)))) ?_
   refine gGo ?_;exact gZ ⟨i+1,by omega,rfl,rfl⟩
 ·have hie:i=p.steps.length:=by omega
  rw[hie];refine gA ?_;refine gD rfl ?_;refine gG ?_;(conv=>whnf);refine W.leG (mp:=[(1,1),(3,3)]) (bo:=[19]) (st':=⟨[(1,.bp 1 0),(3,.bp 3 0)],[(1,[.rows 1 [[.ro (dg l p) 0]] none]),(3,[.rows 1 [[.sl (byD l p (p.steps.length+1)) false]] none])],[1,3]⟩)
   (LeG.mq (.ci 1 (.cons 3 (b1:=.rows 1 [[.sl (byD l p (p.steps.length+1)) false]] none) rfl rfl (.rows _ _ _ (by repeat' (first|exact trivial|exact⟨Lent.whole rfl rfl (by rw[iS];omega) rfl (.inl rfl),rfl⟩|apply And.intro))) rfl .nil))) ?_
  refine gGo ?_;intros;refine And.intro ⟨by omega,by omega,(by show(((aw (aV l p)).length:Nat):Int)*8≤_;omega),by omega⟩ ?_;rw[Int.toNat_natCast];(conv=>whnf);refine gGo ?_;have hx0:=jD (l:=l) (p:=p) (Nat.zero_le _);have hc0:=bu .i64 (aK l p 0);rw[cA] at hc0;change _=ab (tabN l p 0) at hc0;have hr0:=(cq (lP h (i:=0) (by omega))).1;have hg0:∀y,y<ab (tabN l p 0)→(aq .i64 (aK l p 0))[y]?=some [.int .i64 (cntI l p 0 y)]:=fun y hy=>o7 hy;generalize aq .i64 (aK l p 0)=cs at *;obtain⟨O,hO⟩:∃O:Nat→List (List Nat),O=fun r=>((List.range r).filter fun r=>decide (0<cntI l p 0 r)).flatMap fun r=>visL l p p.steps.length [r]:=⟨_,rfl⟩
  obtain⟨R,hR0,hRs⟩:∃R:Nat→List Nat,R 0=List.replicate N 0∧∀r,R (r+1)=if 0<cntI l p 0 r then r::iD l p p.steps.length [r] (R r).tail else R r:=⟨fun n=>Nat.rec (List.replicate N 0) (fun r x=>if 0<cntI l p 0 r then r::iD l p p.steps.length [r] x.tail else x) n,rfl,fun r=>rfl⟩
  have hO0:O 0=[]:=by rw[hO];rfl
  have hOs:∀r,O (r+1)=if 0<cntI l p 0 r then O r++visL l p p.steps.length [r] else O r:=fun r=>by
   rw[hO];simp only[List.range_succ,List.filter_append,List.flatMap_append];by_cases hc:0<cntI l p 0 r<;>simp[hc]
  have hOe:O (ab (tabN l p 0))=a6 l p:=by rw[←Ej h,hO];rfl
  have hRl:∀r,(R r).length=p.steps.length+1:=fun r=>by
   induction r with
   |zero=>rw[hR0,List.length_replicate];omega
   |succ r ih =>
    rw[hRs];split
    ·rw[List.length_cons,o8 l p _ _ _ (by rw[List.length_tail,ih];rfl)]
    ·exact ih
  have hOl:∀r,r≤ab (tabN l p 0)→(O r).length≤4096:=fun r hr=>by
   have h1:∀d r,(O r).length≤(O (r+d)).length:=fun d r=>by
    induction d with
    |zero=>exact Nat.le_refl _
    |succ d ih =>
     rw[show r+(d+1)=(r+d)+1 by omega,hOs];split
     ·rw[List.length_append];omega
     ·exact ih
   have h2:=h1 (ab (tabN l p 0)-r) r;rw[show r+(ab (tabN l p 0)-r)=ab (tabN l p 0) by omega,hOe] at h2;omega
  have hrep:af (R 0)=List.replicate N [.int .i64 0]:=by rw[hR0];simp[af]
  have hrl0:=aQ (R 0);have hRl0:=hRl 0;clear hO;(refine g ?_;intros);refine W.ownCell 9 0 0 95 1 rfl rfl rfl rfl rfl ?_;refine W.leG (mp:=[(1,90),(9,91),(10,92),(3,93),(11,94),(95,95),(83,96)]) (bo:=[]) (st':=⟨[(9,.bp 91 0),(10,.bp 92 0),(11,.bp 94 0),(91,.sl cs false),(92,.int .i64 cs.length),(93,.int .i64 (0:Nat))],[(90,[.rows 1 [[.ro (dg l p) 0]] none]),(91,[.rows 1 [[.osl 95 0 0 (am (O 0)).length (am (O 0)).length]] none]),(92,[.rows 1 [[.osl 96 0 0 (af (R 0)).length (af (R 0)).length]] none]),(93,[.rows 1 [[.sl (byD l p (p.steps.length+1)) false]] none]),(94,[.rows 1 [[.fn 141 [.bp 90 0,.bp 91 0,.bp 92 0,.bp 93 0,.bp 94 0]]] none]),(95,[.rows 1 (am (O 0)) (some [])]),(96,[.rows 1 (af (R 0)) (some [])])],[90,91,92,93,94,95,96]⟩)
   (LeG.mq (.ci 1 (.cons 9 rfl rfl (.refl _) (by rw[hO0];rfl) (.cons 10 rfl rfl (.refl _) (by rw[hrl0,hRl0,←hpl];rfl) (.ci 3 (.ci 11 (.cons 95 rfl rfl (.refl _) (by rw[hO0];rfl) (.cons 83 rfl rfl (.refl _) (by rw[hrep,hNN];rfl) .nil)))))))) ?_
  refine W.loopG (fun m st=>∃r:Nat,r≤ab (tabN l p 0)∧m=ab (tabN l p 0)-r∧st=⟨[(9,.bp 91 0),(10,.bp 92 0),(11,.bp 94 0),(91,.sl cs false),(92,.int .i64 cs.length),(93,.int .i64 r)],[(90,[.rows 1 [[.ro (dg l p) 0]] none]),(91,[.rows 1 [[.osl 95 0 0 (am (O r)).length (am (O r)).length]] none]),(92,[.rows 1 [[.osl 96 0 0 (af (R r)).length (af (R r)).length]] none]),(93,[.rows 1 [[.sl (byD l p (p.steps.length+1)) false]] none]),(94,[.rows 1 [[.fn 141 [.bp 90 0,.bp 91 0,.bp 92 0,.bp 93 0,.bp 94 0]]] none]),(95,[.rows 1 (am (O r)) (some [])]),(96,[.rows 1 (af (R r)) (some [])])],[90,91,92,93,94,95,96]⟩)
   (ab (tabN l p 0)) _ ⟨0,by omega,by omega,rfl⟩ gX ?_
  rintro m st ⟨r,hr,rfl,rfl⟩;have hrrl:=aQ (R r);have hRlr:=hRl r;refine gT (fun hb=>?_) fun hb=>?_
  ·have hlt:r<ab (tabN l p 0):=by omega
   have hg:=hg0 r hlt;have hos:=hOs r;have hrs:=hRs r;have hol1:=hOl (r+1) (by omega);have hcb:=mT h (i:=0) (by omega) hlt;refine g ?_;by_cases hpos:0<cntI l p 0 r
   ·rw[if_pos hpos] at hos hrs;rw[hos,List.length_append] at hol1;obtain⟨z,hgi⟩:∃z:Int,(af (R r))[0]?=some [.int .i64 z]:=⟨_,dy (by omega)⟩
    have hset:(af (R r)).set 0 [.int .i64 ((r:Nat):Int)]=af ([r]++(R r).tail):=by
     cases hRc:R r with
     |nil=>rw[hRc] at hRlr;simp at hRlr
     |cons z zs=>simp[af]
    have hsp:=sF h p.steps.length [r] (R r).tail (O r) (by simp) (by rw[List.length_singleton];omega) (by rw[List.length_tail];omega) ⟨fun i hi=>(by
     have e:i=0:=(by rw[List.length_singleton] at hi;omega)
     subst e;exact hlt),fun q hq=>(by rw[List.length_singleton] at hq;omega)⟩ (fun i hi=>(by
     have e:i=0:=(by rw[List.length_singleton] at hi;omega)
     subst e
     show cntI l p 0 r≠0
     omega)) hol1
    rw[←hos,show [r]++iD l p p.steps.length [r] (R r).tail=R (r+1) by rw[hrs];rfl] at hsp;have hnl3:=aQ ([r]++(R r).tail);have hrl4:([r]++(R r).tail).length=p.steps.length+1:=by rw[List.length_append,List.length_tail,List.length_singleton];omega
    have hle:(af ([r]++(R r).tail)).length=(af (R r)).length:=by omega
    change Spec _ _ [.int .i64 1,_,_,_,_,_] _ _ _ at hsp;unfold visH at hsp;generalize [r]++(R r).tail=row1 at *;refine gK (by omega) ?_;(conv=>whnf);refine gGs ?_;refine gC rfl ?_;refine gA ?_;(refine gE env hN (by kernel_rfl) ?_;conv=>whnf);refine gGs ?_;refine al (by simpa using hgi) ?_;(conv=>whnf);refine gGs ?_;refine W.leG (mp:=[(90,90),(91,91),(92,92),(93,93),(94,94),(95,95),(96,96)]) (bo:=[]) (st':=⟨[(9,.bp 91 0),(10,.bp 92 0),(11,.bp 94 0),(91,.sl cs false),(92,.int .i64 cs.length),(93,.int .i64 r)],[(90,[.rows 1 [[.ro (dg l p) 0]] none]),(91,[.rows 1 [[.osl 95 0 0 (am (O r)).length (am (O r)).length]] none]),(92,[.rows 1 [[.osl 96 0 0 (af row1).length (af row1).length]] none]),(93,[.rows 1 [[.sl (byD l p (p.steps.length+1)) false]] none]),(94,[.rows 1 [[.fn 141 [.bp 90 0,.bp 91 0,.bp 92 0,.bp 93 0,.bp 94 0]]] none]),(95,[.rows 1 (am (O r)) (some [])]),(96,[.rows 1 (af row1) (some [])])],[90,91,92,93,94,95,96]⟩)
     (LeG.mq (.ci 90 (.ci 91 (.cons 92 rfl rfl (.refl _) (by rw[hle];rfl) (.ci 93 (.ci 94 (.ci 95 (.cons 96 rfl rfl (.refl _) (by rw[←hset];rfl) .nil)))))))) ?_
    refine gGo ?_;(refine gCA [(90,90),(91,91),(92,92),(93,93),(94,94),(95,95),(96,96)] [] [] (hsp) ?_;conv=>whnf);refine gGo ?_;refine⟨_,_,?_,⟨r+1,by omega,rfl,rfl⟩,[(90,90),(91,91),(92,92),(93,93),(94,94),(95,95),(96,96)],[],[],.mq (.ci 90 (.ci 91 (.ci 92 (.ci 93 (.ci 94 (.ci 95 (.ci 96 .nil))))))) ⟩;omega
   ·rw[if_neg hpos] at hos hrs;refine gGo ?_;refine⟨_,_,?_,⟨r+1,by omega,rfl,rfl⟩,[(90,90),(91,91),(92,92),(93,93),(94,94),(95,95),(96,96)],[],[],.mq (.ci 90 (.cons 91 rfl rfl (.refl _) (by rw[hos];rfl) (.cons 92 rfl rfl (.refl _) (by rw[hrs];rfl) (.ci 93 (.ci 94 (.cons 95 rfl rfl (.refl _) (by rw[hos];rfl) (.cons 96 rfl rfl (.refl _) (by rw[hrs];rfl) .nil)))))))⟩;omega
  ·have hre:r=ab (tabN l p 0):=by omega
   rw[hre,hOe];refine gGo ?_;(refine gM ?_;conv=>whnf);exact retH rfl (.refl _) rfl rfl rfl ⟨rfl,rfl,trivial⟩
def nT(l:List Table)(p:Pth):Int:=if aD l p=0 then(if(a6 l p).length≤4096 then 0 else 3) else aD l p
theorem AZ(l:List Table)(p:Pth):totN l p=((a6 l p).length:Int):=rQ
theorem Et{l:List Table}{p:Pth}(h:nT l p=0):aD l p=0∧(a6 l p).length≤4096:=by
 unfold nT at h;split at h
 ·rename_i h0;split at h
  ·rename_i h1;exact⟨h0,h1⟩
  ·cases h
 ·rename_i h0;exact absurd h h0
theorem Ab(l:List Table)(p:Pth):kz l p=if nT l p=0 then(a6 l p,0) else([],nT l p):=by
 unfold kz nT;by_cases h0:aD l p=0
 ·rw[if_pos h0,if_pos h0];by_cases h1:(a6 l p).length≤4096
  ·rw[if_pos h1,if_pos h1,if_pos rfl]
  ·rw[if_neg h1,if_neg h1,if_neg (by decide)]
 ·rw[if_neg h0,if_neg h0,if_neg h0]
def nilW(cs:List Column):List (List V):=cs.map fun c=>[.str c.name,.nils]
theorem yh(cs:List Column):(nilW cs).length=cs.length:=by simp[nilW]
def bare(cs:List Column):List Column:=cs.map fun c=>⟨c.name,[]⟩
end Go.Sx.Sp
