/- Steps in maps, and the ways from a table. -/
import Derived.Test.YthlokmbefpjmgaaGreatDoorRtOne
import Derived.Test.YthlokmbefpjmgaaGreatDoorSxFive
import Derived.Test.YthlokmbefpjmgaaGreatDoorSxFour
set_option linter.unusedVariables false
set_option linter.unusedSimpArgs false
set_option maxHeartbeats 16000000
namespace Go.Sx.Sp
open Go Go.Sx Go.Proofs
attribute [local irreducible] aO famL
def tabI:Nat→List (Int×V)→List (Nat×V×V)
 |_,[]=>[]
 |k,p::l=>(k,.int .i64 p.1,p.2)::tabI (k+1) l
theorem nI:∀(T:List (Int×V)) (k:Nat),(tabI k T).length=T.length
 | [],_=>rfl
 |p::T,k=>by simp[tabI,nI T]
theorem nJ(s:Int):∀(T:List (Int×V)) (k:Nat),aZ (.int .i64 s) (tabI k T)=some ((ixI s (ax T)).map fun i=>(i,k+i,(T.getD i (0,.dead)).2))
 | [],k=>rfl
 |(u,v)::T,k=>by
  by_cases h:s=u
  ·subst h;simp[tabI,aZ,cV,ixI,ax]
  ·have:=nJ s T (k+1);simp only[tabI,aZ,cV,h,decide_false,decide_true,this,ixI,ax,List.map_cons,if_false];simp only[ax] at this;cases ixI s (T.map (·.1)) with
   |none=>rfl
   |some i =>
    simp only[Option.map_some];rw[show k+1+i=k+(i+1) by omega];simp
theorem uH(s:Int)(v:V):∀(T:List (Int×V)) (k:Nat),tabI k (T++[(s,v)])=tabI k T++[(k+T.length,.int .i64 s,v)]
 | [],k=>rfl
 |p::T,k=>by
  simp only[List.cons_append,tabI,uH s v T (k+1),List.length_cons];rw[show k+1+T.length=k+(T.length+1) by omega]
theorem fT:∀(T:List (Int×V)) (k j:Nat),(tabI k T)[j]?=(T[j]?).map fun p=>(k+j,.int .i64 p.1,p.2)
 | [],k,j=>by simp[tabI]
 |p::T,k,0=>by simp[tabI]
 |p::T,k,j+1=>by
  simp only[tabI,List.getElem?_cons_succ];rw[fT T (k+1) j,show k+1+j=k+(j+1) by omega]
def md(F k:Nat):BunS→List (Int×V)
 | []=>[]
 |p::T=>(p.1,.osl F (k+2) 0 p.2.length p.2.length)::md F (k+1) T
def dS(F:Nat)(T:BunS):List (Nat×V×V):=tabI 0 (md F 0 T)
def ep(T:BunS):List (Nat×V×V):=tabI 0 (T.map fun p=>(p.1,.sl (ae p.2) false))
def lisS(L:List Stp):Blk:=.rows 4 (ae L) (some [])
def d7(T:BunS):List Blk:=lisS []::lisS []::T.map fun p=>lisS p.2
theorem cC(T:BunS):∀b∈d7 T,b.famB=true:=fun b hb=>by
 unfold d7 at hb;rcases List.mem_cons.1 hb with rfl|hb
 ·rfl
 rcases List.mem_cons.1 hb with rfl|hb
 ·rfl
 obtain⟨x,_,rfl⟩:=List.mem_map.1 hb;rfl
theorem oW(T:BunS):(d7 T).length=T.length+2:=by simp[d7]
theorem oX{T:BunS}{j:Nat}{q:Int×List Stp}(h:T[j]?=some q):(d7 T)[j+2]?=some (lisS q.2):=by
 unfold d7;rw[List.getElem?_cons_succ,List.getElem?_cons_succ,List.getElem?_map,h];rfl
theorem oY(F:Nat):∀(T:BunS) (k:Nat),(md F k T).length=T.length
 | [],_=>rfl
 |p::T,k=>by simp[md,oY F T]
theorem sm(F:Nat):∀(T:BunS) (k:Nat),ax (md F k T)=ax T
 | [],_=>rfl
 |p::T,k=>by
  have:=sm F T (k+1);simp only[ax] at this ⊢;simp[md,this]
theorem jy(F:Nat):∀(T:BunS) (k j:Nat),(md F k T)[j]?=(T[j]?).map fun p=>(p.1,.osl F (k+j+2) 0 p.2.length p.2.length)
 | [],k,j=>by simp[md]
 |p::T,k,0=>by simp[md]
 |p::T,k,j+1=>by
  simp only[md,List.getElem?_cons_succ];rw[jy F T (k+1) j,show k+1+j=k+(j+1) by omega]
theorem jz(F:Nat)(T:BunS):(dS F T).length=T.length:=by simp[dS,nI,oY]
theorem lM(F:Nat)(T:BunS)(j:Nat):(dS F T)[j]?=(T[j]?).map fun p=>(j,.int .i64 p.1,.osl F (j+2) 0 p.2.length p.2.length):=by
 unfold dS;rw[fT,jy];cases T[j]?<;>simp
theorem xY(F:Nat)(T:BunS)(s:Int):aZ (.int .i64 s) (dS F T)=some ((ixI s (ax T)).map fun j=>(j,j,.osl F (j+2) 0 (aN T s).length (aN T s).length)):=by
 unfold dS;rw[nJ,sm];cases h:ixI s (ax T) with
 |none=>rfl
 |some j =>
  have h1:=eY h;have h2:=jy F T 0 j;rw[h1] at h2;simp only[Option.map_some] at h2 ⊢;rw[List.getD_eq_getElem?_getD,h2];simp
theorem uI{F:Nat}{T:BunS}{s:Int}{x:Stp}{j n:Nat}(h:ixI s (ax T)=some j)(hn:n=(aN T s).length+1):(dS F T).set j (j,.int .i64 s,.osl F (j+2) 0 n n)=dS F (addZ T s x):=by
 rw[gx h];apply List.ext_getElem?;intro k;have hj:=ja h;have hj2:j<T.length:=by simpa[ax] using hj
 unfold dS;rw[List.getElem?_set,nI,oY,fT,fT,jy,jy,List.getElem?_set];by_cases e:j=k
 ·subst e;simp[hj2,hn]
 ·simp[e]
theorem uJ{T:BunS}{s:Int}{x:Stp}{j:Nat}(h:ixI s (ax T)=some j):(d7 T).set (j+2) (lisS (aN T s++[x]))=d7 (addZ T s x):=by
 rw[gx h];unfold d7;rw[List.map_set];rfl
theorem uK{T:BunS}{s:Int}{x:Stp}(h:ixI s (ax T)=none):d7 T++[lisS [x]]=d7 (addZ T s x):=by
 rw[fx h];simp[d7]
theorem uL{T:BunS}{s:Int}{x:Stp}{d F c c1:Nat}(hdF:d≠F)(h:ixI s (ax T)=none)(hc:c=T.length)(ks:Option (List Nat)):BGat d F (T.length+2) (.map (dS F T++[(c,.int .i64 s,.osl d 0 0 1 1)]) c1 ks) (.map (dS F (addZ T s x)) c1 (some [F])):=by
 subst hc;have hl:(dS F (addZ T s x)).length=T.length+1:=by rw[jz,fx h];simp
 refine .map _ _ _ _ _ (by rw[hl,List.length_append,jz];rfl) fun j b k v1 hj=>?_;have hjl:j<T.length+1:=by
  have:=(List.getElem?_eq_some_iff.1 hj).1
  rwa [hl] at this
 rw[lM,fx h] at hj;by_cases e:j=T.length
 ·subst e;rw[List.getElem?_append_right (Nat.le_refl _),Nat.sub_self] at hj;simp only[List.getElem?_cons_zero,Option.map_some,Option.some.injEq,Prod.mk.injEq] at hj;obtain⟨rfl,rfl,rfl⟩:=hj;refine⟨.osl d 0 0 1 1,?_,?_,fun l hl s hs=>?_⟩
  ·rw[List.getElem?_append_right (by rw[jz];exact Nat.le_refl _),jz,Nat.sub_self];rfl
  ·simp[V.gat]
  ·cases hl;simpa[V.sites] using hs
 ·have hj2:j<T.length:=by omega
  rw[List.getElem?_append_left hj2,List.getElem?_eq_getElem hj2] at hj;simp only[Option.map_some,Option.some.injEq,Prod.mk.injEq] at hj;obtain⟨rfl,rfl,rfl⟩:=hj;refine⟨.osl F (j+2) 0 T[j].2.length T[j].2.length,?_,?_,fun l hl s hs=>?_⟩
  ·rw[List.getElem?_append_left (by rw[jz];exact hj2),lM,List.getElem?_eq_getElem hj2];simp
  ·simp[V.gat,hj2,Ne.symm hdF]
  ·cases hl;simpa[V.sites] using hs
theorem pP{F:Nat}{T:BunS}:∀(i:Nat) b key v,(dS F T)[i]?=some (b,key,v)→∀s∈v.sites,s∈[F]:=fun i b key v hi s hs=>by
 rw[lM] at hi;cases hT:T[i]? with
 |none=>rw[hT] at hi;simp at hi
 |some q =>
  rw[hT] at hi;simp only[Option.map_some,Option.some.injEq,Prod.mk.injEq] at hi;obtain⟨rfl,rfl,rfl⟩:=hi;simpa[V.sites] using hs
theorem so(T:BunS)(s:Int):∃r,aZ (.int .i64 s) (ep T)=some r∧((ixI s (ax T)=none∧r=none)∨∃j,ixI s (ax T)=some j∧r=some (j,j,.sl (ae (aN T s)) false)):=by
 unfold ep;refine⟨_,nJ s _ 0,?_⟩;have hk:ax (T.map fun p=>(p.1,V.sl (ae p.2) false))=ax T:=by simp[ax]
 rw[hk];cases h:ixI s (ax T) with
 |none=>exact .inl ⟨rfl,rfl⟩
 |some j =>
  refine .inr ⟨j,rfl,?_⟩;have h1:=eY h;simp[List.getD_eq_getElem?_getD,h1]
theorem zN(T:BunS)(ks:Option (List Nat)):vx (ep T) ks:=.inr fun p hp=>by
 obtain⟨j,hj⟩:=List.getElem?_of_mem hp;unfold ep at hj;rw[fT,List.getElem?_map] at hj;cases hT:T[j]? with
 |none=>rw[hT] at hj;simp at hj
 |some q=>rw[hT] at hj;simp at hj;rw[←hj];simp[V.sites]
def mixV(F:Nat)(f:List Stp→List Stp)(dn:List Nat)(k:Nat):BunS→List (Int×V)
 | []=>[]
 |p::T=>(p.1,if k∈dn then .sl (ae (f p.2)) false else .osl F (k+2) 0 p.2.length p.2.length)::mixV F f dn (k+1) T
def er(F:Nat)(f:List Stp→List Stp)(dn:List Nat)(T:BunS):List (Nat×V×V):=tabI 0 (mixV F f dn 0 T)
theorem xZ(F:Nat)(f:List Stp→List Stp)(dn:List Nat):∀(T:BunS) (k:Nat),(mixV F f dn k T).length=T.length
 | [],_=>rfl
 |p::T,k=>by simp[mixV,xZ F f dn T]
theorem uM(F:Nat)(f:List Stp→List Stp)(dn:List Nat):∀(T:BunS) (k:Nat),ax (mixV F f dn k T)=ax T
 | [],_=>rfl
 |p::T,k=>by
  have:=uM F f dn T (k+1);simp only[ax] at this ⊢;simp[mixV,this]
theorem sq(F:Nat)(f:List Stp→List Stp)(dn:List Nat):∀(T:BunS) (k j:Nat),(mixV F f dn k T)[j]?=(T[j]?).map fun p=>(p.1,if k+j∈dn then .sl (ae (f p.2)) false else .osl F (k+j+2) 0 p.2.length p.2.length)
 | [],k,j=>by simp[mixV]
 |p::T,k,0=>by simp[mixV]
 |p::T,k,j+1=>by
  simp only[mixV,List.getElem?_cons_succ];rw[sq F f dn T (k+1) j,show k+1+j=k+(j+1) by omega]
theorem jA(F:Nat)(f:List Stp→List Stp)(dn:List Nat)(T:BunS):(er F f dn T).length=T.length:=by simp[er,nI,xZ]
theorem eN(F:Nat)(f:List Stp→List Stp)(dn:List Nat)(T:BunS)(j:Nat):(er F f dn T)[j]?=(T[j]?).map fun p=>(j,.int .i64 p.1,if j∈dn then .sl (ae (f p.2)) false else .osl F (j+2) 0 p.2.length p.2.length):=by
 unfold er;rw[fT,sq];cases T[j]?<;>simp
theorem Ce(F:Nat)(f:List Stp→List Stp)(T:BunS):er F f [] T=dS F T:=by
 apply List.ext_getElem?;intro j;rw[eN,lM];simp
theorem Cf(F:Nat)(f:List Stp→List Stp)(dn:List Nat)(T:BunS)(h:∀j,j<T.length→j∈dn):er F f dn T=ep (T.map fun p=>(p.1,f p.2)):=by
 apply List.ext_getElem?;intro j;rw[eN];unfold ep;rw[fT,List.getElem?_map,List.getElem?_map];by_cases hj:j<T.length
 ·rw[List.getElem?_eq_getElem hj];simp[h j hj]
 ·rw[List.getElem?_eq_none (by omega)];rfl
theorem D8(F:Nat)(f:List Stp→List Stp)(dn:List Nat)(T:BunS)(s:Int){j:Nat}(h:ixI s (ax T)=some j):aZ (.int .i64 s) (er F f dn T)=some (some (j,j,if j∈dn then .sl (ae (f (aN T s))) false else .osl F (j+2) 0 (aN T s).length (aN T s).length)):=by
 unfold er;rw[nJ,uM,h];have h1:=eY h;have h2:=sq F f dn T 0 j;rw[h1] at h2;simp only[Option.map_some] at h2 ⊢;rw[List.getD_eq_getElem?_getD,h2];simp
theorem uN{l:List Int}(h:l.Nodup){j:Nat}{s:Int}(hj:l[j]?=some s):ixI s l=some j:=by
 induction l generalizing j with
 |nil=>simp at hj
 |cons u l ih =>
  obtain⟨h1,h2⟩:=List.nodup_cons.1 h;cases j with
  |zero=>simp at hj;subst hj;simp[ixI]
  |succ j =>
   simp at hj;have hm:=List.mem_of_getElem? hj;have hne:¬s=u:=fun e=>by subst e;exact h1 hm
   simp[ixI,hne,ih h2 hj]
theorem zO{F:Nat}{f:List Stp→List Stp}{dn:List Nat}{T:BunS}{s:Int}{j:Nat}(h:ixI s (ax T)=some j):(er F f dn T).set j (j,.int .i64 s,.sl (ae (f (aN T s))) false)=er F f (dn++[j]) T:=by
 apply List.ext_getElem?;intro k;have hj:=ja h;have hj2:j<T.length:=by simpa[ax] using hj
 rw[List.getElem?_set,jA,eN,eN];by_cases e:j=k
 ·subst e;rw[if_pos rfl,if_pos hj2,eY h];simp
 ·rw[if_neg e];have:k∈dn++[j]↔k∈dn:=by simp[Ne.symm e]
  simp[this]
end Go.Sx.Sp
namespace Go.Sx.Sp
open Go Go.Sx Go.Proofs Go.Sort
attribute [local irreducible] aO famL
theorem AX:EqI Tryz.prog 9999 67 2:=
 qv (d:=9998) (n0:=1) (n1:=1) Tryz.underlying67 (by kernel_rfl) (by kernel_rfl) (by kernel_rfl) rfl rfl Tryz.isAgg67 Tryz.sizeOf67 (lx Tryz.underlying3) (lx Tryz.underlying3)
theorem D9:EqI Tryz.prog 10000 99 4:=
 qv (d:=9999) (n0:=2) (n1:=2) Tryz.underlying99 (by kernel_rfl) (by kernel_rfl) (by kernel_rfl) rfl rfl Tryz.isAgg99 Tryz.sizeOf99 AX AX
theorem step_eq(c d:Stp):([c.ft,c.fc,c.tt,c.tc]=[d.ft,d.fc,d.tt,d.tc])↔c=d:=by
 cases c;cases d;simp
theorem x3{N:NB}{o:Oper}{h:Nat→List Blk}{ρ:Operand→V}{t':Nat}{x y:Operand}(hop:o.op=.binOp .neq 99 x y t')(c d:Stp)(hx:ρ x=.agg c.row)(hy:ρ y=.agg d.row)(hd:dL N o.dst=true):aO Tryz.prog N o ρ h (.bool (!decide (c=d))) [] []:=by
 have h1:=oD (P:=Tryz.prog) (N:=N) (h:=h) (ρ:=ρ) (op:=.neq) hop (.inr rfl) (by kernel_rfl)
  (fun l l' w a b=>D9.equal rfl Tryz.isAgg99 Tryz.sizeOf99 a b w) (l:=[c.ft,c.fc,c.tt,c.tc]) (l':=[d.ft,d.fc,d.tt,d.tc]) rfl rfl hx hy
 have e:decide (c=d)=decide ([c.ft,c.fc,c.tt,c.tc]=[d.ft,d.fc,d.tt,d.tc]):=decide_eq_decide.2 (step_eq c d).symm;rw[e];exact h1.toW hd
structure FamOK (B:BunS) (seen:List Nat) (L:List Blk):Prop where
 fam:∀b∈L,b.famB=true
 len:L.length=B.length+2
 at_:∀(j:Nat) p,B[j]?=some p→j∉seen→L[j+2]?=some (lisS p.2)
theorem FamOK.start(B:BunS):FamOK B [] (d7 B):=⟨cC _,oW _,fun j p h _=>oX h⟩
theorem FamOK.done{B:BunS}{seen:List Nat}{L:List Blk}(h:FamOK B seen L)(j:Nat){b:Blk}(hb:b.famB=true):FamOK B (seen++[j]) (L.set (j+2) b):=by
 refine⟨fun x hx=>?_,by rw[List.length_set];exact h.len,fun i p hp hn=>?_⟩
 ·rcases List.mem_or_eq_of_mem_set hx with h1|h1
  ·exact h.fam x h1
  ·rw[h1];exact hb
 ·rw[List.getElem?_set];have hne:¬j=i:=fun e=>hn (by simp[e]);rw[if_neg (by omega)];exact h.at_ i p hp fun hm=>hn (by simp[hm])
theorem pQ{F:Nat}{f:List Stp→List Stp}{dn:List Nat}{T:BunS}:∀(i:Nat) b key v,(er F f dn T)[i]?=some (b,key,v)→∀s∈v.sites,s∈[F]:=fun i b key v hi s hs=>by
 rw[eN] at hi;cases hT:T[i]? with
 |none=>rw[hT] at hi;simp at hi
 |some q =>
  rw[hT] at hi;simp only[Option.map_some,Option.some.injEq,Prod.mk.injEq] at hi;obtain⟨rfl,rfl,rfl⟩:=hi;split at hs
  ·simp[V.sites] at hs
  ·simpa[V.sites] using hs
theorem x4{H:Nat→List Blk}{bo:List Nat}{B:BunS}{seen:List Nat}{t:Int}{j c:Nat}{ks:Option (List Nat)}{v:V}(hj:ixI t (ax B)=some j)(hv:Lent H bo v (.sl (ae (finS (aN B t))) false)) :
  BLent H bo (.map ((er 900 finS seen B).set j (j,.int .i64 t,v)) c ks) (.map (er 900 finS (seen++[j]) B) c (some [900])):=by
 refine .mapL _ _ _ _ _ (by rw[List.length_set,jA,jA]) fun i b k v1 hi=>?_;have hsi:=pQ i b k v1 hi;rw[←zO hj,List.getElem?_set,jA] at hi;have hjl:=ja hj;have hjl2:j<B.length:=by simpa[ax] using hjl
 by_cases e:j=i
 ·subst e;rw[if_pos rfl,if_pos hjl2] at hi;cases hi;exact⟨v,by rw[List.getElem?_set,if_pos rfl,jA,if_pos hjl2],hv,hsi⟩
 ·rw[if_neg e] at hi;exact⟨v1,by rw[List.getElem?_set,if_neg e];exact hi,.refl _,hsi⟩
theorem AY{es:List (Nat×V×V)}{s:Int}{j:Nat}{v0 v:V}(h:aZ (.int .i64 s) es=some (some (j,j,v0))):aZ (.int .i64 s) (es.set j (j,.int .i64 s,v))=some (some (j,j,v)):=by
 suffices H:∀(es:List (Nat×V×V)) (q b:Nat),aZ (.int .i64 s) es=some (some (q,b,v0))→aZ (.int .i64 s) (es.set q (b,.int .i64 s,v))=some (some (q,b,v)) from H es j j h
 intro es
 induction es with
 |nil=>intro q b h;simp[aZ] at h
 |cons x es ih =>
  intro q b h;obtain⟨b0,k0,w0⟩:=x;unfold aZ at h;split at h
  ·cases h;simp[aZ,cV]
  ·rename_i h1;split at h
   ·rename_i i b' v' h2;cases h;rw[List.set_cons_succ];unfold aZ;rw[h1];simp only;rw[ih i b h2]
   ·cases h
   ·cases h
  ·cases h
theorem Ref.cut [Glob]{Γ:Ctx}{s s1 z:St}(h1:Ref Γ s s1)(h2:∃s',s'=z∧Ref Γ s1 s'):∃s',s'=z∧Ref Γ s s':=let⟨s',e,h⟩:=h2;⟨s',e,h1.trans h⟩
theorem nK{f:List Stp→List Stp}{dn:List Nat}{T:BunS}{j:Nat}{k v:V}{l:List Nat}(hl:900∈l)(hv:∀s∈v.sites,s∈l):∀(i:Nat) b key u,((er 900 f dn T).set j (j,k,v))[i]?=some (b,key,u)→∀s∈u.sites,s∈l:=fun i b key u hi s hs=>by
 rw[List.getElem?_set] at hi;split at hi
 ·split at hi
  ·cases hi;exact hv s hs
  ·cases hi
 ·have:=pQ i b key u hi s hs;simp at this;subst this;exact hl
theorem vV(l:List Table)(E:List (List Int))(hs:∀t∈l,j5 t)(h11:∀r∈E,ky r)(hE:E.length≤1000000):Spec Tryz.prog 32 [.sl (aa l) false,.sl (aA E) false] [] (.dmap (mkD (ep (f8 l (bh E))))) []:=by
 have hel:=eK E;refine gEn env Tryz.func32 fun Γ hN hK hML=>?_;refine gGo ?_;intros;refine W.ref (Ref.reserve 900 2 4 rfl) ?_;refine W.leG (mp:=[(16,16),(900,900)]) (bo:=[]) (st':=⟨[(0,.sl (aa l) false),(5,.omap 16 0),(17,.sl (aA E) false),(18,.int .i64 (aA E).length),(19,.int .i64 0)],[(16,[.map [] 0 (some [])]),(900,d7 [])],[16,900]⟩)
  (LeG.mq (.ci 16 (.fam 900 rfl (by show _=famL 2 _;unfold famL;rfl) (cC _) .nil))) ?_
 refine W.ref (Ref.rekm 16 [900] rfl (fun i b k v hi=>by simp at hi) (fun q hq=>by simp at hq;subst hq;rfl)) ?_;refine W.loopG (fun m st=>∃j:Nat,j≤E.length∧m=E.length-j∧st=⟨[(0,.sl (aa l) false),(5,.omap 16 0),(17,.sl (aA E) false),(18,.int .i64 (aA E).length),(19,.int .i64 (j:Nat))],[(16,[.map (dS 900 (rawW l (bh (E.take j)))) (rawW l (bh (E.take j))).length (some [900])]),(900,d7 (rawW l (bh (E.take j))))],[16,900]⟩)
  E.length _ ⟨0,by omega,by omega,rfl⟩ ⟨[(16,16),(900,900)],[],[],LeG.mq (.cons 16 rfl rfl (.refl _) (rfl) (.fam 900 rfl (rfl) (cC _) .nil))⟩ ?_
 rintro m st ⟨j,hj,rfl,rfl⟩;refine gT (fun hb=>?_) fun hb=>?_
 ·have hlt:j<E.length:=by omega
  have hg:=k7 hlt;obtain⟨r0,r1,r2,r3,r4,r5,r6,r7,r8,r9,r10,hr⟩:=DM (h11 _ (List.getElem_mem hlt));have hsn:rawW l (bh (E.take (j+1)))=addE l (rawW l (bh (E.take j))) (dG E[j]):=by
   rw[List.take_succ_eq_append_getElem hlt];unfold bh;rw[List.map_append];exact Cb _ _ _
  have hlen:=xT l (bh (E.take j)) [];have hll:=fun t=>lL l t (bh (E.take j)) [];have hsl:(bh (E.take j)).length=j:=by unfold bh;rw[List.length_map,List.length_take];omega
  rw[hsl] at hlen hll;change (rawW l (bh (E.take j))).length≤_ at hlen;change ∀t,(aN (rawW l (bh (E.take j))) t).length≤0+j at hll;rw[hr] at hg hsn;change rawW l (bh (E.take (j+1)))=addE l _ ⟨r0,r1,r2,r3⟩ at hsn;generalize rawW l (bh (E.take j))=T at *;have sa:=ue l r0 r1 hs;have sb:=ue l r2 r3 hs;have hok:addE l T ⟨r0,r1,r2,r3⟩=if((getC l r0 r1).isSome&&(getC l r2 r3).isSome&&!decide (r0=r2))=true then addZ (addZ T r0 ⟨r0,r1,r2,r3⟩) r2 ⟨r2,r3,r0,r1⟩ else T:=rfl
  rw[hok] at hsn;clear hok;generalize (getC l r0 r1).isSome=A at *;generalize (getC l r2 r3).isSome=B at *;generalize (getC l r0 r1).getD Column.zero=ca at *;generalize (getC l r2 r3).getD Column.zero=cb at *;cases A with
  |false =>
   rw[if_neg (by simp)] at hsn;refine gGo ?_;refine al (by simpa using hg) ?_;(conv=>whnf);refine gGo ?_;(refine gPC (sa) ?_;conv=>whnf);refine gGo ?_;(refine gPC (sb) ?_;conv=>whnf);refine gGo ?_;refine⟨_,_,?_,⟨j+1,by omega,rfl,rfl⟩,[(16,16),(900,900)],[],[],LeG.mq (.cons 16 rfl rfl (.refl _) (by rw[hsn];rfl) (.fam 900 rfl (by rw[hsn];rfl) (cC _) .nil))⟩;omega
  |true =>
   cases B with
   |false =>
    rw[if_neg (by simp)] at hsn;refine gGo ?_;refine al (by simpa using hg) ?_;(conv=>whnf);refine gGo ?_;(refine gPC (sa) ?_;conv=>whnf);refine gGo ?_;(refine gPC (sb) ?_;conv=>whnf);refine gGo ?_;refine⟨_,_,?_,⟨j+1,by omega,rfl,rfl⟩,[(16,16),(900,900)],[],[],LeG.mq (.cons 16 rfl rfl (.refl _) (by rw[hsn];rfl) (.fam 900 rfl (by rw[hsn];rfl) (cC _) .nil))⟩;omega
   |true =>
    by_cases he:r0=r2
    ·rw[if_neg (by simp[he])] at hsn;refine gGo ?_;refine al (by simpa using hg) ?_;(conv=>whnf);refine gGo ?_;(refine gPC (sa) ?_;conv=>whnf);refine gGo ?_;(refine gPC (sb) ?_;conv=>whnf);refine gGo ?_;refine⟨_,_,?_,⟨j+1,by omega,rfl,rfl⟩,[(16,16),(900,900)],[],[],LeG.mq (.cons 16 rfl rfl (.refl _) (by rw[hsn];rfl) (.fam 900 rfl (by rw[hsn];rfl) (cC _) .nil))⟩;omega
    ·rw[if_pos (by simp[he])] at hsn;refine gA ?_;refine gC rfl ?_;refine gF ?_;(conv=>whnf);refine gA ?_;refine gB ?_;refine gA ?_;(refine gE env hN (by kernel_rfl) ?_;conv=>whnf);refine gGs ?_;refine al (by simpa using hg) ?_;(conv=>whnf);refine gGs ?_;refine gA ?_;(refine gE env hN (by kernel_rfl) ?_;conv=>whnf);refine gGs ?_;(refine gPC (sa) ?_;conv=>whnf);refine gGs ?_;refine gA ?_;(refine gE env hN (by kernel_rfl) ?_;conv=>whnf);refine gGs ?_;(refine gPC (sb) ?_;conv=>whnf);refine gGs ?_;refine gA ?_;refine gA ?_;(refine gE env hN (by kernel_rfl) ?_;conv=>whnf);refine gGs ?_;refine gD rfl ?_;refine gF ?_;(conv=>whnf);refine W.leG (mp:=[(16,16),(900,900)]) (bo:=[7]) (st':=⟨[(0,.sl (aa l) false),(5,.omap 16 0),(17,.sl (aA E) false),(18,.int .i64 (aA E).length),(19,.int .i64 (j:Nat)),(7,.ro (eV [r0,r1,r2,r3,r4,r5,r6,r7,r8,r9,r10]) 0)],[(16,[.map (dS 900 (T)) (T).length (some [900])]),(900,d7 (T))],[16,900]⟩)
      (LeG.mk' rfl rfl rfl (by repeat' (first|exact trivial|exact⟨_,.refl _,rfl⟩|exact⟨_,.bp 7 0 11 (eV [r0,r1,r2,r3,r4,r5,r6,r7,r8,r9,r10]) none rfl rfl (by simp[eV]) (.inr rfl),rfl⟩|apply And.intro)) (.cons 16 rfl rfl (.refl _) (rfl) (.fam 900 rfl (rfl) (cC _) .nil)) rfl rfl (by rw[hK];rfl)) ?_
     obtain⟨T1,hT1⟩:∃T1:BunS,T1=addZ T r0 ⟨r0,r1,r2,r3⟩:=⟨_,rfl⟩
     have hT1l:=sd T r0 (⟨r0,r1,r2,r3⟩:Stp);have hl0:=hll r0;have hl2:(aN T1 r2).length≤j:=by
      rw[hT1,jx,if_neg (Ne.symm he)];have:=hll r2;omega
     rw[←hT1] at hsn hT1l;refine W.cut (fun z=>z=⟨[(0,.sl (aa l) false),(5,.omap 16 0),(17,.sl (aA E) false),(18,.int .i64 (aA E).length),(19,.int .i64 (j:Nat)),(7,.ro (eV [r0,r1,r2,r3,r4,r5,r6,r7,r8,r9,r10]) 0)],[(16,[.map (dS 900 (T1)) (T1).length (some [900])]),(900,d7 (T1))],[16,900]⟩) ?_ ?_
     ·have ha:=xY 900 T r0;refine gE env hN (by kernel_rfl) ?_;(conv=>whnf);refine gGs ?_;refine bl (by kernel_rfl) ?_;(conv=>whnf);refine⟨_,ha,?_⟩;cases hix:ixI (r0) (ax (T)) with
      |none =>
       rw[hix] at ha;have hgt:=fun ks=>uL (x:=(⟨r0,r1,r2,r3⟩:Stp)) (d:=67) (F:=900) (c1:=(T).length+1) (by decide) hix rfl ks;have hfn:=uK (x:=(⟨r0,r1,r2,r3⟩:Stp)) hix;have hfl:=oW (T);have hl1:(addZ (T) (r0) ((⟨r0,r1,r2,r3⟩:Stp))).length=(T).length+1:=by rw[fx hix];simp
       (conv=>whnf);refine gGo ?_;refine⟨ao rfl au,bc (n:=1) (b:=32) (by decide) (by decide),Or.inl ?_⟩;(conv=>whnf);refine gGo ?_;refine⟨_,ha,?_⟩;(conv=>whnf);refine gGs ?_;refine Ref.cut (Ref.gather 67 900 (b:=.rows 4 [Stp.row ((⟨r0,r1,r2,r3⟩:Stp))] (some [])) (L:=d7 (T)) (hp:=[(16,[.map (dS 900 (addZ (T) (r0) ((⟨r0,r1,r2,r3⟩:Stp)))) ((T).length+1) (some [900])])])
        (s':=⟨[(0,.sl (aa l) false),(5,.omap 16 0),(17,.sl (aA E) false),(18,.int .i64 (aA E).length),(19,.int .i64 (j:Nat)),(7,.ro (eV [r0,r1,r2,r3,r4,r5,r6,r7,r8,r9,r10]) 0)],[(900,d7 (T)++[.rows 4 [Stp.row ((⟨r0,r1,r2,r3⟩:Stp))] (some [])]),(16,[.map (dS 900 (addZ (T) (r0) ((⟨r0,r1,r2,r3⟩:Stp)))) ((T).length+1) (some [900])])],_⟩)
        rfl rfl rfl rfl rfl (cC _) rfl (by repeat' (first|exact trivial|apply And.intro|rfl))
        ⟨⟨rfl,rfl,_,_,rfl,rfl,(by rw[hfl];exact hgt _),rfl⟩,trivial⟩ rfl (by rw[hK];rfl)) ?_
       exact⟨_,rfl,.le (mp:=[(16,16),(900,900)]) (bo:=[]) (LeG.mq (.cons 16 rfl rfl (.refl _) (by rw[hT1,hl1];rfl) (.fam 900 rfl (by rw[hT1,←hfn];rfl) (cC _) .nil)))⟩
      |some q =>
       rw[hix] at ha;have hfk:=oX (eY hix);have hse:=fun n (hn:n=(aN (T) (r0)).length+1)=>uI (F:=900) (x:=(⟨r0,r1,r2,r3⟩:Stp)) hix hn;have hsf:=uJ (x:=(⟨r0,r1,r2,r3⟩:Stp)) hix;have hnl:=aC (aN (T) (r0));have hl1:(addZ (T) (r0) ((⟨r0,r1,r2,r3⟩:Stp))).length=(T).length:=by rw[gx hix];simp
       (conv=>whnf);refine gGo ?_;generalize hO:cU _ 900 (q+2)=O;have hO2:O=some (4,ae (aN (T) (r0)),some []):=by rw[←hO];exact fj hfk
       subst hO2;clear hO;(conv=>whnf);refine⟨⟨ao rfl au,by omega⟩,bc (n:=(aN (T) (r0)).length+1) (b:=32) (by omega) (by omega),.inl ⟨rfl,rfl,?_⟩⟩;(conv=>whnf);refine gGo ?_;refine⟨_,ha,?_⟩;(conv=>whnf);refine gGs ?_;refine Ref.cut (Ref.rekm' 16 (es1:=dS 900 (addZ (T) (r0) ((⟨r0,r1,r2,r3⟩:Stp)))) [900] rfl (by rw[←hse _ rfl];rfl) pP (fun q hq=>by simp at hq;subst hq;rfl)) ?_;exact⟨_,rfl,.le (mp:=[(16,16),(900,900)]) (bo:=[]) (LeG.mq (.cons 16 rfl rfl (.refl _) (by rw[hT1,hl1];rfl) (.fam 900 rfl (by rw[hT1,←hsf];unfold lisS;rw[show ae (aN T r0++[(⟨r0,r1,r2,r3⟩:Stp)])=ae (aN T r0)++[Stp.row ⟨r0,r1,r2,r3⟩] by simp[ae]];rfl) (cC _) .nil)))⟩
     ·rintro z rfl;have ha:=xY 900 T1 r2;refine gE env hN (by kernel_rfl) ?_;(conv=>whnf);refine gGs ?_;refine bl (by kernel_rfl) ?_;(conv=>whnf);refine⟨_,ha,?_⟩;cases hix:ixI (r2) (ax (T1)) with
      |none =>
       rw[hix] at ha;have hgt:=fun ks=>uL (x:=(⟨r2,r3,r0,r1⟩:Stp)) (d:=83) (F:=900) (c1:=(T1).length+1) (by decide) hix rfl ks;have hfn:=uK (x:=(⟨r2,r3,r0,r1⟩:Stp)) hix;have hfl:=oW (T1);have hl1:(addZ (T1) (r2) ((⟨r2,r3,r0,r1⟩:Stp))).length=(T1).length+1:=by rw[fx hix];simp
       (conv=>whnf);refine gGo ?_;refine⟨ao rfl au,bc (n:=1) (b:=32) (by decide) (by decide),Or.inl ?_⟩;(conv=>whnf);refine gGo ?_;refine⟨_,ha,?_⟩;(conv=>whnf);refine gGs ?_;refine W.ref (Ref.gather 83 900 (b:=.rows 4 [Stp.row ((⟨r2,r3,r0,r1⟩:Stp))] (some [])) (L:=d7 (T1)) (hp:=[(16,[.map (dS 900 (addZ (T1) (r2) ((⟨r2,r3,r0,r1⟩:Stp)))) ((T1).length+1) (some [900])])])
        (s':=⟨[(0,.sl (aa l) false),(5,.omap 16 0),(17,.sl (aA E) false),(18,.int .i64 (aA E).length),(19,.int .i64 (j:Nat)),(7,.ro (eV [r0,r1,r2,r3,r4,r5,r6,r7,r8,r9,r10]) 0)],[(900,d7 (T1)++[.rows 4 [Stp.row ((⟨r2,r3,r0,r1⟩:Stp))] (some [])]),(16,[.map (dS 900 (addZ (T1) (r2) ((⟨r2,r3,r0,r1⟩:Stp)))) ((T1).length+1) (some [900])])],_⟩)
        rfl rfl rfl rfl rfl (cC _) rfl (by repeat' (first|exact trivial|apply And.intro|rfl))
        ⟨⟨rfl,rfl,_,_,rfl,rfl,(by rw[hfl];exact hgt _),rfl⟩,trivial⟩ rfl (by rw[hK];rfl)) ?_
       ((refine gGo ?_;intros);exact⟨E.length-(j+1),_,by omega,⟨j+1,by omega,rfl,rfl⟩,[(16,16),(900,900)],[],[],LeG.mq (.cons 16 rfl rfl (.refl _) (by rw[hsn,hl1];rfl) (.fam 900 rfl (by rw[hsn,←hfn];rfl) (cC _) .nil))⟩)
      |some q =>
       rw[hix] at ha;have hfk:=oX (eY hix);have hse:=fun n (hn:n=(aN (T1) (r2)).length+1)=>uI (F:=900) (x:=(⟨r2,r3,r0,r1⟩:Stp)) hix hn;have hsf:=uJ (x:=(⟨r2,r3,r0,r1⟩:Stp)) hix;have hnl:=aC (aN (T1) (r2));have hl1:(addZ (T1) (r2) ((⟨r2,r3,r0,r1⟩:Stp))).length=(T1).length:=by rw[gx hix];simp
       (conv=>whnf);refine gGo ?_;generalize hO:cU _ 900 (q+2)=O;have hO2:O=some (4,ae (aN (T1) (r2)),some []):=by rw[←hO];exact fj hfk
       subst hO2;clear hO;(conv=>whnf);refine⟨⟨ao rfl au,by omega⟩,bc (n:=(aN (T1) (r2)).length+1) (b:=32) (by omega) (by omega),.inl ⟨rfl,rfl,?_⟩⟩;(conv=>whnf);refine gGo ?_;refine⟨_,ha,?_⟩;(conv=>whnf);refine gGs ?_;refine W.ref (Ref.rekm' 16 (es1:=dS 900 (addZ (T1) (r2) ((⟨r2,r3,r0,r1⟩:Stp)))) [900] rfl (by rw[←hse _ rfl];rfl) pP (fun q hq=>by simp at hq;subst hq;rfl)) ?_
       ((refine gGo ?_;intros);exact⟨E.length-(j+1),_,by omega,⟨j+1,by omega,rfl,rfl⟩,[(16,16),(900,900)],[],[],LeG.mq (.cons 16 rfl rfl (.refl _) (by rw[hsn,hl1];rfl) (.fam 900 rfl (by rw[hsn,←hsf];unfold lisS;rw[show ae (aN T1 r2++[(⟨r2,r3,r0,r1⟩:Stp)])=ae (aN T1 r2)++[Stp.row ⟨r2,r3,r0,r1⟩] by simp[ae]];rfl) (cC _) .nil))⟩)
 ·have hje:j=E.length:=by omega
  rw[hje,List.take_length];have hnd:=AS l (bh E) [] (by simp[ax]);have hll:=fun t=>lL l t (bh E) [];have hsl:(bh E).length=E.length:=by unfold bh;rw[List.length_map]
  rw[hsl] at hll;change (ax (rawW l (bh E))).Nodup at hnd;change ∀t,(aN (rawW l (bh E)) t).length≤0+E.length at hll;have hways:f8 l (bh E)=(rawW l (bh E)).map fun p=>(p.1,finS p.2):=rfl;rw[hways];clear hways;generalize rawW l (bh E)=B at *;refine gGo ?_;refine W.loopG (fun n st=>∃(seen:List Nat) (L:List Blk),Seen B.length seen∧FamOK B seen L∧n=B.length-seen.length∧st=⟨[(5,.omap 16 0),(86,.bp 86 0)],[(86,[.iter 16 0 B.length seen]),(16,[.map (er 900 finS seen B) B.length (some [900])]),(900,L)],[16,900,86]⟩)
   B.length _ ⟨[],d7 B,Seen.nil _,FamOK.start B,by simp,rfl⟩ ⟨[(86,86),(16,16),(900,900)],[],[],LeG.mq (.ci 86 (.cons 16 rfl rfl (.refl _) (by rw[Ce];rfl) (.fam 900 rfl rfl (cC _) .nil)))⟩ ?_
  rintro n st ⟨seen,L,hse,hL,rfl,rfl⟩;refine gA ?_;have hlL:=hL.len;have hsl2:=hse.len;refine W.nextMap env hN rfl rfl rfl (by kernel_rfl) rfl rfl rfl (fun hD=>?_) (fun j0 j kk v hj hb=>?_)
  ·have hall:∀i,i<B.length→i∈seen:=fun i hi=>hD i i _ _ (by rw[eN,List.getElem?_eq_getElem hi];rfl);have hes:=Cf 900 finS seen B hall;rw[hes];(conv=>whnf);refine gGo ?_;refine W.leG (mp:=[]) (bo:=[16]) (st':=⟨[(4,.dmap (mkD (ep (B.map fun p=>(p.1,finS p.2)))))],[],[]⟩)
    (LeG.mk' rfl rfl rfl ⟨⟨_,.omapF 16 0 _ _ _ rfl rfl (zN _ _),rfl⟩,trivial⟩ .nil rfl rfl (by rw[hK];rfl)) ?_
   (refine gM ?_;conv=>whnf);exact ret0 rfl rfl rfl
  ·rw[eN] at hj;obtain⟨p,hp⟩:∃p,B[j0]?=some p:=by
    cases hq:B[j0]? with
    |none=>rw[hq] at hj;cases hj
    |some p=>exact⟨p,rfl⟩
   rw[hp] at hj;simp only[Option.map_some,Option.some.injEq,Prod.mk.injEq] at hj;obtain⟨h1,h2,h3⟩:=hj;subst h1;rw[if_neg hb] at h3;subst h2;subst h3;obtain⟨t,Ls⟩:=p;have hix:=uN hnd (j:=j0) (s:=t) (by unfold ax;rw[List.getElem?_map,hp];rfl);have hLs:Ls=aN B t:=by
    have:=eY hix;rw[hp] at this;cases this;rfl
   have hjl:j0<B.length:=(List.getElem?_eq_some_iff.1 hp).1;have hget:=hL.at_ j0 _ hp hb;have hat:=eN 900 finS seen B j0;rw[hp] at hat;simp only[Option.map_some,if_neg hb] at hat;have hma:=D8 900 finS seen B t hix;rw[if_neg hb,←hLs] at hma;have hlt:=hll t;rw[←hLs] at hlt;have hnl:=aC Ls;have spS:=Spec.fam (args':=[.osl 900 (j0+2) 0 (ae Ls).length (ae Ls).length,.fn 73 []]) (rY Ls (by omega)) 900 (j0+2) L hL.fam hget rfl rfl ⟨.inl ⟨_,_,_,rfl,rfl⟩,.inr ⟨rfl,rfl⟩,trivial⟩;rw[hnl] at spS;obtain⟨L1,hL1⟩:∃L1,L1=L.set (j0+2) (.rows 4 (ae (bw b8 Ls)) (some [])):=⟨_,rfl⟩
   have hdn:FamOK B (seen++[j0]) L1:=by rw[hL1];exact hL.done j0 rfl
   have hgS:L1[j0+2]?=some (lisS (bw b8 Ls)):=by rw[hL1,List.getElem?_set,if_pos rfl,if_pos (by omega)];rfl
   rw[←hL1] at spS;clear hL1;have hse':=hse.snoc hjl hb;(conv=>whnf);refine gGo ?_;refine⟨seen,j0,j0,.int .i64 _,_,rfl,hat,rfl,?_⟩;(conv=>whnf);refine gGo ?_;(refine gCF (spS) (fun p hp b hb=>by simp at hp;subst hp;exact dY (hL.fam b hb)) (fun p hp e=>by simp at hp;subst hp;simp at e;rw[e] at hlL;simp at hlL) ?_;conv=>whnf);refine gGo ?_;refine⟨_,hma,?_⟩;(conv=>whnf);refine gGo ?_;have hsS:=bX b8 Ls;have hfin:finS (aN B t)=dedK (bw b8 Ls) Ls.length:=by rw[←hLs];unfold finS;rw[hsS]
   have hmn:=AY (v:=.nils) hma;have hmo:=fun n=>AY (v:=.osl 121 0 0 n n) hma;generalize bw b8 Ls=S at *;have hSn:=aC S;generalize hO:cU _ 900 (j0+2)=O;have hO2:O=some (4,ae S,some []):=by rw[←hO];exact fj hgS
   subst hO2;clear hO;(conv=>whnf);refine⟨by omega,fun hlenZ=>?_⟩;(conv=>whnf);refine gGo ?_;refine W.loopG (fun m st=>∃i:Nat,i≤Ls.length∧m=Ls.length-i∧((i=0∧st=⟨[(5,.omap 16 0),(12,.int .i64 t),(13,.osl 900 (j0+2) 0 Ls.length Ls.length),(86,.bp 86 0),(96,.osl 900 (j0+2) 0 Ls.length Ls.length),(97,.int .i64 Ls.length),(98,.int .i64 (0:Nat))],[(86,[.iter 16 0 B.length (seen++[j0])]),(16,[.map ((er 900 finS seen B).set j0 (j0,.int .i64 t,.nils)) B.length (some [900])]),(900,L1)],[16,900,86]⟩)∨(0<i∧st=⟨[(5,.omap 16 0),(12,.int .i64 t),(13,.osl 900 (j0+2) 0 Ls.length Ls.length),(86,.bp 86 0),(96,.osl 900 (j0+2) 0 Ls.length Ls.length),(97,.int .i64 Ls.length),(98,.int .i64 (i:Nat))],[(86,[.iter 16 0 B.length (seen++[j0])]),(16,[.map ((er 900 finS seen B).set j0 (j0,.int .i64 t,.osl 121 0 0 (ae (dedK S i)).length (ae (dedK S i)).length)) B.length (some [900,121])]),(900,L1),(121,[.rows 4 (ae (dedK S i)) (some [])])],[16,900,86,121]⟩))) Ls.length _ ⟨0,by omega,by omega,.inl ⟨rfl,rfl⟩⟩
    ⟨[(86,86),(16,16),(900,900)],[],[],LeG.mq (.ci 86 (.ci 16 (.fam 900 rfl rfl hdn.fam .nil)))⟩ ?_
   rintro m st ⟨i,hi,rfl,(⟨rfl,rfl⟩|⟨hi0,rfl⟩)⟩
   ·refine gT (fun hb=>?_) fun hb=>?_
    ·have hlt0:0<S.length:=by omega
     have hg0:=bf hlt0;have hd1:dedK S 1=[S[0]]:=by
      show dedK S 0++(match S[0]? with|none=>[]|some x=>if 0=0∨S[0-1]?≠some x then [x] else [])=_;rw[List.getElem?_eq_getElem hlt0];simp[dedK]
     generalize S[0]=x at *;have hr1:ae (dedK S 1)=[x.row]:=by rw[hd1];rfl
     refine gGo ?_;generalize hO:(ak _ 900)[j0+2]?=O;have hO2:O=some (lisS S):=by rw[←hO];exact hgS
     subst hO2;clear hO;(conv=>whnf);refine⟨by omega,⟨by omega,by omega⟩,?_⟩;(conv=>whnf);refine gGo ?_;generalize hO:(ak _ 900)[j0+2]?=O;have hO2:O=some (lisS S):=by rw[←hO];exact hgS
     subst hO2;clear hO;(conv=>whnf);refine gN (by omega) ?_;refine g ?_;refine bl (by kernel_rfl) ?_;(conv=>whnf);refine⟨_,hmn,?_⟩;(conv=>whnf);refine gGo ?_;refine⟨ao rfl au,bc (n:=1) (b:=32) (by decide) (by decide),Or.inl ?_⟩;(conv=>whnf);refine gGo ?_;refine⟨_,hmn,?_⟩;(conv=>whnf);refine gGs ?_;refine W.ref (Ref.rekm' 16 (es1:=(er 900 finS seen B).set j0 (j0,.int .i64 t,.osl 121 0 0 1 1)) [900,121] rfl (by rw[List.set_set];rfl) (nK (by simp) (by simp[V.sites])) (fun q hq=>by simp at hq;rcases hq with rfl|rfl<;>rfl)) ?_;refine gGo ?_;refine⟨Ls.length-(0+1),_,by omega,⟨0+1,by omega,rfl,.inr ⟨by omega,rfl⟩⟩,[(86,86),(16,16),(900,900),(121,121)],[],[],LeG.mq (.ci 86 (.cons 16 rfl rfl (.refl _) (by rw[show 0+1=1 from rfl,hr1];rfl) (.fam 900 rfl rfl hdn.fam (.cons 121 rfl rfl (.refl _) (by rw[show 0+1=1 from rfl,hr1];rfl) .nil))))⟩
    ·have hL0:Ls.length=0:=by omega
     have hfe:finS (aN B t)=[]:=by rw[hfin,hL0];rfl
     refine gGo ?_;refine⟨B.length-(seen++[j0]).length,_,by rw[List.length_append,List.length_singleton];have:=hse'.len;rw[List.length_append,List.length_singleton] at this;omega,⟨seen++[j0],L1,hse',hdn,rfl,rfl⟩,[(86,86),(16,16),(900,900)],[],[],LeG.mq (.ci 86 (.cons 16 (b1:=.map (er 900 finS (seen++[j0]) B) B.length (some [900])) rfl rfl (x4 hix (by rw[hfe];exact .norm _)) rfl (.fam 900 rfl rfl hdn.fam .nil)))⟩
   ·refine gT (fun hb=>?_) fun hb=>?_
    ·have hlti:i<S.length:=by omega
     have hlti1:i-1<S.length:=by omega
     have hgi:=bf hlti;have hgi1:=bf hlti1;have hdl:=sg S i;have hdn2:=aC (dedK S i);have hmi:=hmo (ae (dedK S i)).length;have hdi:dedK S (i+1)=dedK S i++if S[i-1]≠S[i] then [S[i]] else []:=by
      show dedK S i++(match S[i]? with|none=>[]|some x=>if i=0∨S[i-1]?≠some x then [x] else [])=_;rw[List.getElem?_eq_getElem hlti,List.getElem?_eq_getElem hlti1];simp[show ¬i=0 by omega]
     generalize S[i]=x at *;generalize S[i-1]=y at *;refine gGo ?_;generalize hO:(ak _ 900)[j0+2]?=O;have hO2:O=some (lisS S):=by rw[←hO];exact hgS
     subst hO2;clear hO;(conv=>whnf);refine⟨by omega,⟨by omega,by omega⟩,?_⟩;(conv=>whnf);refine gGo ?_;generalize hO:(ak _ 900)[j0+2]?=O;have hO2:O=some (lisS S):=by rw[←hO];exact hgS
     subst hO2;clear hO;(conv=>whnf);refine gN (by omega) ?_;refine g ?_;generalize hO:(ak _ 900)[j0+2]?=O;have hO2:O=some (lisS S):=by rw[←hO];exact hgS
     subst hO2;clear hO;(conv=>whnf);refine⟨by omega,⟨by omega,by omega⟩,?_⟩;(conv=>whnf);refine gGo ?_;generalize hO:(ak _ 900)[j0+2]?=O;have hO2:O=some (lisS S):=by rw[←hO];exact hgS
     subst hO2;clear hO;(conv=>whnf);refine gN (by omega) ?_;refine al (r:=y.row) (by rw[show(0+(((i:Nat):Int)-1).toNat)=i-1 by omega];exact hgi1) ?_;(conv=>whnf);refine gGo ?_;refine⟨_,_,_,x3 rfl x y rfl rfl (by kernel_rfl),?_⟩;by_cases he:x=y
     ·rw[decide_eq_true he];rw[if_neg (by simp[he]),List.append_nil] at hdi;(conv=>whnf);refine gGo ?_;refine⟨Ls.length-(i+1),_,by omega,⟨i+1,by omega,rfl,.inr ⟨by omega,rfl⟩⟩,[(86,86),(16,16),(900,900),(121,121)],[],[],LeG.mq (.ci 86 (.cons 16 rfl rfl (.refl _) (by rw[hdi];rfl) (.fam 900 rfl rfl hdn.fam (.cons 121 rfl rfl (.refl _) (by rw[hdi];rfl) .nil))))⟩
     ·rw[decide_eq_false he];rw[if_pos (Ne.symm he)] at hdi;have hr1:ae (dedK S (i+1))=ae (dedK S i)++[x.row]:=by rw[hdi];simp[ae]
      have hr2:(ae (dedK S (i+1))).length=(ae (dedK S i)).length+1:=by rw[hr1];simp
      (conv=>whnf);refine gGo ?_;refine bl (by kernel_rfl) ?_;(conv=>whnf);refine⟨_,hmi,?_⟩;(conv=>whnf);refine gGo ?_;refine⟨⟨ao rfl au,rfl⟩,bc (n:=(ae (dedK S i)).length+1) (b:=32) (by omega) (by omega),.inl ⟨rfl,rfl,?_⟩⟩;(conv=>whnf);refine gGo ?_;refine⟨_,hmi,?_⟩;(conv=>whnf);refine gGs ?_;refine W.ref (Ref.rekm' 16 (es1:=(er 900 finS seen B).set j0 (j0,.int .i64 t,.osl 121 0 0 ((ae (dedK S i)).length+1) ((ae (dedK S i)).length+1))) [900,121] rfl (by rw[List.set_set];rfl) (nK (by simp) (by simp[V.sites])) (fun q hq=>by simp at hq;rcases hq with rfl|rfl<;>rfl)) ?_;refine gGo ?_;refine⟨Ls.length-(i+1),_,by omega,⟨i+1,by omega,rfl,.inr ⟨by omega,rfl⟩⟩,[(86,86),(16,16),(900,900),(121,121)],[],[],LeG.mq (.ci 86 (.cons 16 rfl rfl (.refl _) (by rw[hr2];rfl) (.fam 900 rfl rfl hdn.fam (.cons 121 rfl rfl (.refl _) (by rw[hr1];rfl) .nil))))⟩
    ·have hie:i=Ls.length:=by omega
     have hfe:finS (aN B t)=dedK S i:=by rw[hfin,hie]
     refine gGo ?_;refine⟨B.length-(seen++[j0]).length,_,by rw[List.length_append,List.length_singleton];have:=hse'.len;rw[List.length_append,List.length_singleton] at this;omega,⟨seen++[j0],L1,hse',hdn,rfl,rfl⟩,[(86,86),(16,16),(900,900)],[121],[],LeG.mq (.ci 86 (.cons 16 (b1:=.map (er 900 finS (seen++[j0]) B) B.length (some [900])) rfl rfl (x4 hix (by rw[hfe];exact Lent.whole rfl rfl rfl rfl (.inl rfl))) rfl (.fam 900 rfl rfl hdn.fam .nil)))⟩
def eO(D:Dist):List (Nat×V×V):=tabI 0 (D.map fun p=>(p.1,.int .i64 ((p.2:Nat):Int)))
theorem zP(D:Dist):ax (D.map fun p=>(p.1,V.int .i64 ((p.2:Nat):Int)))=ax D:=by simp[ax]
theorem sr(D:Dist)(s:Int):aZ (.int .i64 s) (eO D)=some ((ixI s (ax D)).map fun j=>(j,j,.int .i64 (((D.getD j (0,0)).2:Nat):Int))):=by
 unfold eO;rw[nJ,zP];cases h:ixI s (ax D) with
 |none=>rfl
 |some j =>
  obtain⟨v,hv⟩:=nH h;simp[List.getD_eq_getElem?_getD,hv]
theorem ss{D:Dist}{s:Int}(h:s∉ax D):aZ (.int .i64 s) (eO D)=some none:=by rw[sr,cM.2 h];rfl
theorem iB{D:Dist}{s:Int}{m:Nat}(h:bJ D s=some m):∃j,aZ (.int .i64 s) (eO D)=some (some (j,j,.int .i64 (m:Int))):=by
 unfold bJ at h;rw[Option.map_eq_some_iff] at h;obtain⟨j,hj,rfl⟩:=h;exact⟨j,by rw[sr,hj];rfl⟩
theorem su(D:Dist)(t:Int)(m:Nat):eO (D++[(t,m)])=eO D++[(D.length,.int .i64 t,.int .i64 (m:Int))]:=by
 unfold eO;rw[List.map_append];have:=uH t (.int .i64 (m:Int)) (D.map fun p=>(p.1,V.int .i64 ((p.2:Nat):Int))) 0;rw[List.length_map,Nat.zero_add] at this;exact this
theorem zQ(D:Dist)(ks:Option (List Nat)):vx (eO D) ks:=.inr fun p hp=>by
 obtain⟨j,hj⟩:=List.getElem?_of_mem hp;unfold eO at hj;rw[fT,List.getElem?_map] at hj;cases hT:D[j]? with
 |none=>rw[hT] at hj;simp at hj
 |some q=>rw[hT] at hj;simp at hj;rw[←hj];simp[V.sites]
theorem x6{D:Dist}(h:(ax D).Nodup){i:Nat}{q:Int×Nat}(hq:D[i]?=some q):bJ D q.1=some q.2:=by
 have h1:=uN h (j:=i) (s:=q.1) (by unfold ax;rw[List.getElem?_map,hq];rfl);unfold bJ;rw[h1];simp[List.getD_eq_getElem?_getD,hq]
def Near(D:Dist):Prop:=∀p∈D,p.2≤D.length
theorem Near.farS{D:Dist}{n:Nat}{s:Stp}(h:Near D)(hn:n≤D.length):Near (farS n D s):=by
 unfold Go.Sx.Sp.farS;split
 ·exact h
 ·intro p hp;rw[List.length_append,List.length_singleton];rcases List.mem_append.1 hp with hp|hp
  ·have:=h p hp;omega
  ·simp only[List.mem_singleton] at hp;subst hp;simp;omega
theorem Ea(l:List Table)(E:List Stp)(goal:Int)(hE:E.length≤1000000):Spec Tryz.prog 74 [.dmap (mkD (ep (f8 l E))),.int .i64 goal] [] (.dmap (mkD (eO (farM l E goal)))) []:=by
 have hfar:farM l E goal=farR (wayW l E) (2*E.length+1) 0 [(goal,0)]:=rfl;have hU:∀t,∀s∈wayW l E t,s.tt∈allT E goal:=fun t s hs=>xV hs;have hUl:(allT E goal).length=2*E.length+1:=by simp[allT];omega
 have hlook:=fun t=>so (f8 l E) t;have hnone:∀t,ixI t (ax (f8 l E))=none→wayW l E t=[]:=fun t h=>mP h;have hwl:=fun t=>sj l E t;rw[hfar];clear hfar;have hlk:∀t,aN (f8 l E) t=wayW l E t:=fun t=>rfl;simp only[hlk] at hlook;generalize f8 l E=M at *;generalize wayW l E=Wy at *;refine gEn env Tryz.func74 fun Γ hN hK hML=>?_;refine gGo ?_;refine⟨_,rfl,?_⟩;(conv=>whnf);refine gGl ?_;refine Or.inl ?_;(conv=>whnf);refine gGo ?_;refine W.loopG (fun m st=>∃(i:Nat) (D:Dist),FarI Wy (allT E goal) goal i D∧Near D∧farR Wy (2*E.length+1) 0 [(goal,0)]=farR Wy (2*E.length+1-i) i D∧m=2*E.length+1-i∧st=⟨[(0,.dmap (mkD (ep M))),(5,.omap 12 0),(6,.osl 16 0 0 (D).length (D).length),(7,.int .i64 (i:Nat))],[(12,[.map (eO (D)) (D).length (some [])]),(16,[.rows 1 (aq .i64 (ax (D))) (some [])])],[12,16]⟩)
  (2*E.length+1) _ ⟨0,[(goal,0)],FarI.start Wy (by simp[allT]),(fun p hp=>by simp at hp;subst hp;simp),rfl,by omega,rfl⟩ ⟨[(12,12),(16,16)],[],[],LeG.mq (.ci 12 (.cons 16 rfl rfl (.pure _ _ _ (fun r hr v hv=>by simp at hr;subst hr;simp at hv;subst hv;rfl)) rfl .nil))⟩ ?_
 rintro m st ⟨i,D,hI,hN2,hgo,rfl,rfl⟩;have hDl:=hI.len;rw[hUl] at hDl;have hkl:(aq .i64 (ax D)).length=D.length:=by rw[bu];simp[ax]
 have hile:=hI.le;refine gT (fun hb=>?_) fun hb=>?_
 ·have hil:i<D.length:=by omega
  obtain⟨k,hk⟩:∃k,2*E.length+1-i=k+1:=⟨2*E.length-i,by omega⟩
  have hst:farR Wy (k+1) i D=farR Wy k (i+1) (farT Wy D i):=by rw[farR,if_pos hil]
  have hk2:2*E.length+1-(i+1)=k:=by omega
  rw[hk,hst] at hgo;have hq:D[i]?=some D[i]:=List.getElem?_eq_getElem hil;have hft:farT Wy D i=(Wy D[i].1).foldl (farS D[i].2) D:=by unfold farT;rw[hq]
  rw[hft] at hgo;have hJ:=hI.open_ hq;have hqn:=hN2 _ (List.getElem_mem hil);generalize D[i]=q at *;have hgq:(aq .i64 (ax D))[i]?=some [.int .i64 q.1]:=by
   unfold aq ax;rw[List.getElem?_map,List.getElem?_map,hq];rfl
  obtain⟨r,hr1,hr2⟩:=hlook q.1;have hwq:=hwl q.1;have hUq:=hU q.1;have hys:ixI q.1 (ax M)=none→Wy q.1=[]:=hnone q.1;have hclose:∀D',FarJ Wy (allT E goal) goal i q (Wy q.1) D D'→FarI Wy (allT E goal) goal (i+1) D':=fun D' h=>h.close;generalize Wy q.1=ys at *;have hyl:=aC ys;(refine g ?_;intros);refine bl (by kernel_rfl) ?_;(conv=>whnf);refine⟨_,rfl,_,hr1,?_⟩;rcases hr2 with⟨hix,rfl⟩|⟨jj,hix,rfl⟩
  ·have hy0:=hys hix;(conv=>whnf);refine gGo ?_;refine W.leG (mp:=[(12,12),(16,16)]) (bo:=[]) (st':=⟨[(0,.dmap (mkD (ep M))),(5,.omap 12 0),(6,.osl 16 0 0 (D).length (D).length),(7,.int .i64 (i:Nat)),(28,.sl (ae ys) false),(29,.int .i64 (ae ys).length),(30,.int .i64 (0:Nat))],[(12,[.map (eO (D)) (D).length (some [])]),(16,[.rows 1 (aq .i64 (ax (D))) (some [])])],[12,16]⟩)
    (LeG.mk' rfl rfl rfl (by rw[hy0];exact⟨⟨_,.refl _,rfl⟩,⟨_,.refl _,rfl⟩,⟨_,.refl _,rfl⟩,⟨_,.refl _,rfl⟩,⟨_,.norm _,rfl⟩,⟨_,.refl _,rfl⟩,⟨_,.refl _,rfl⟩,trivial⟩) (.ci 12 (.ci 16 .nil)) rfl rfl (by rw[hK];rfl)) ?_
   refine W.loopG (fun m st=>∃(j:Nat) (D':Dist),j≤ys.length∧FarJ Wy (allT E goal) goal i q (ys.take j) D D'∧D'=(ys.take j).foldl (farS q.2) D∧Near D'∧q.2≤D'.length∧m=ys.length-j∧st=⟨[(0,.dmap (mkD (ep M))),(5,.omap 12 0),(6,.osl 16 0 0 (D').length (D').length),(7,.int .i64 (i:Nat)),(28,.sl (ae ys) false),(29,.int .i64 (ae ys).length),(30,.int .i64 (j:Nat))],[(12,[.map (eO (D')) (D').length (some [])]),(16,[.rows 1 (aq .i64 (ax (D'))) (some [])])],[12,16]⟩)
    ys.length _ ⟨0,D,by omega,hJ,rfl,hN2,hqn,by omega,rfl⟩ gX ?_
   rintro m st ⟨j,D',hj,hJ',hD',hN',hq',rfl,rfl⟩;have hDl':=hJ'.len;rw[hUl] at hDl';have hkl':(aq .i64 (ax D')).length=D'.length:=by rw[bu];simp[ax]
   have hil':=(List.getElem?_eq_some_iff.1 hJ'.at_).1;refine gT (fun hb=>?_) fun hb=>?_
   ·have hlt:j<ys.length:=by omega
    have hg:=bf hlt;have htk:=List.take_succ_eq_append_getElem hlt;have hUs:=hUq _ (List.getElem_mem hlt);generalize ys[j]=s at *;have hJ2:=hJ'.step hUs;have hfo:(ys.take (j+1)).foldl (farS q.2) D=farS q.2 D' s:=by rw[htk,List.foldl_append,←hD'];rfl
    have hN3:Near (farS q.2 D' s):=hN'.farS hq';rw[←htk] at hJ2;refine g ?_;refine bl (by kernel_rfl) ?_;(conv=>whnf);by_cases hm:s.tt∈ax D'
    ·obtain⟨v,hv⟩:=mQ hm;obtain⟨jv,hjv⟩:=iB hv;have hfs:farS q.2 D' s=D':=by unfold farS;rw[if_pos hm]
     rw[hfs] at hJ2 hfo hN3;refine⟨_,hjv,?_⟩;(conv=>whnf);refine gGo ?_;exact⟨ys.length-(j+1),_,by omega,⟨j+1,D',by omega,hJ2,hfo.symm,hN3,hq',rfl,rfl⟩,gX⟩
    ·have hdn:=ss hm;have hfs:farS q.2 D' s=D'++[(s.tt,q.2+1)]:=by unfold farS;rw[if_neg hm]
     rw[hfs] at hJ2 hfo hN3;have hgq':(aq .i64 (ax D'))[i]?=some [.int .i64 q.1]:=by
      unfold aq ax;rw[List.getElem?_map,List.getElem?_map,hJ'.at_];rfl
     obtain⟨jv,hjv⟩:=iB (x6 hJ'.nd hJ'.at_);have hsn:=su D' s.tt (q.2+1);have hks:aq .i64 (ax (D'++[(s.tt,q.2+1)]))=aq .i64 (ax D')++[[.int .i64 s.tt]]:=by simp[aq,ax]
     have hlen:(D'++[(s.tt,q.2+1)]).length=D'.length+1:=by simp
     refine⟨_,hdn,?_⟩;(conv=>whnf);refine g ?_;refine bl (by kernel_rfl) ?_;(conv=>whnf);refine⟨_,hjv,?_⟩;(conv=>whnf);refine gGo ?_;refine⟨_,hdn,?_⟩;(conv=>whnf);refine gGo ?_;refine⟨⟨ao rfl au,hkl'.symm⟩,bc (n:=D'.length+1) (b:=8) (by omega) (by omega),.inl ⟨rfl,rfl,?_⟩⟩;(conv=>whnf);refine gGo ?_;exact⟨ys.length-(j+1),_,by omega,⟨j+1,D'++[(s.tt,q.2+1)],by omega,hJ2,hfo.symm,hN3,by omega,rfl,rfl⟩,[(12,12),(16,16)],[],[],LeG.mk' rfl rfl rfl (by rw[hlen];exact(by repeat' (first|exact trivial|exact⟨_,.refl _,rfl⟩|apply And.intro))) (.cons 12 rfl rfl (.refl _) (by rw[hsn,hlen];rfl) (.cons 16 rfl rfl (.refl _) (by rw[hks];rfl) .nil)) rfl rfl (by rw[hK];rfl)⟩
   ·have hje:j=ys.length:=by omega
    rw[hje,List.take_length] at hJ' hD';refine gGo ?_;exact⟨2*E.length+1-(i+1),_,by omega,⟨i+1,D',hclose D' hJ',hN',by rw[hgo,hk2,hD'],rfl,rfl⟩,gX⟩
  ·(conv=>whnf);refine gGo ?_;intros;refine W.loopG (fun m st=>∃(j:Nat) (D':Dist),j≤ys.length∧FarJ Wy (allT E goal) goal i q (ys.take j) D D'∧D'=(ys.take j).foldl (farS q.2) D∧Near D'∧q.2≤D'.length∧m=ys.length-j∧st=⟨[(0,.dmap (mkD (ep M))),(5,.omap 12 0),(6,.osl 16 0 0 (D').length (D').length),(7,.int .i64 (i:Nat)),(28,.sl (ae ys) false),(29,.int .i64 (ae ys).length),(30,.int .i64 (j:Nat))],[(12,[.map (eO (D')) (D').length (some [])]),(16,[.rows 1 (aq .i64 (ax (D'))) (some [])])],[12,16]⟩)
    ys.length _ ⟨0,D,by omega,hJ,rfl,hN2,hqn,by omega,rfl⟩ gX ?_
   rintro m st ⟨j,D',hj,hJ',hD',hN',hq',rfl,rfl⟩;have hDl':=hJ'.len;rw[hUl] at hDl';have hkl':(aq .i64 (ax D')).length=D'.length:=by rw[bu];simp[ax]
   have hil':=(List.getElem?_eq_some_iff.1 hJ'.at_).1;refine gT (fun hb=>?_) fun hb=>?_
   ·have hlt:j<ys.length:=by omega
    have hg:=bf hlt;have htk:=List.take_succ_eq_append_getElem hlt;have hUs:=hUq _ (List.getElem_mem hlt);generalize ys[j]=s at *;have hJ2:=hJ'.step hUs;have hfo:(ys.take (j+1)).foldl (farS q.2) D=farS q.2 D' s:=by rw[htk,List.foldl_append,←hD'];rfl
    have hN3:Near (farS q.2 D' s):=hN'.farS hq';rw[←htk] at hJ2;refine g ?_;refine bl (by kernel_rfl) ?_;(conv=>whnf);by_cases hm:s.tt∈ax D'
    ·obtain⟨v,hv⟩:=mQ hm;obtain⟨jv,hjv⟩:=iB hv;have hfs:farS q.2 D' s=D':=by unfold farS;rw[if_pos hm]
     rw[hfs] at hJ2 hfo hN3;refine⟨_,hjv,?_⟩;(conv=>whnf);refine gGo ?_;exact⟨ys.length-(j+1),_,by omega,⟨j+1,D',by omega,hJ2,hfo.symm,hN3,hq',rfl,rfl⟩,gX⟩
    ·have hdn:=ss hm;have hfs:farS q.2 D' s=D'++[(s.tt,q.2+1)]:=by unfold farS;rw[if_neg hm]
     rw[hfs] at hJ2 hfo hN3;have hgq':(aq .i64 (ax D'))[i]?=some [.int .i64 q.1]:=by
      unfold aq ax;rw[List.getElem?_map,List.getElem?_map,hJ'.at_];rfl
     obtain⟨jv,hjv⟩:=iB (x6 hJ'.nd hJ'.at_);have hsn:=su D' s.tt (q.2+1);have hks:aq .i64 (ax (D'++[(s.tt,q.2+1)]))=aq .i64 (ax D')++[[.int .i64 s.tt]]:=by simp[aq,ax]
     have hlen:(D'++[(s.tt,q.2+1)]).length=D'.length+1:=by simp
     refine⟨_,hdn,?_⟩;(conv=>whnf);refine g ?_;refine bl (by kernel_rfl) ?_;(conv=>whnf);refine⟨_,hjv,?_⟩;(conv=>whnf);refine gGo ?_;refine⟨_,hdn,?_⟩;(conv=>whnf);refine gGo ?_;refine⟨⟨ao rfl au,hkl'.symm⟩,bc (n:=D'.length+1) (b:=8) (by omega) (by omega),.inl ⟨rfl,rfl,?_⟩⟩;(conv=>whnf);refine gGo ?_;exact⟨ys.length-(j+1),_,by omega,⟨j+1,D'++[(s.tt,q.2+1)],by omega,hJ2,hfo.symm,hN3,by omega,rfl,rfl⟩,[(12,12),(16,16)],[],[],LeG.mk' rfl rfl rfl (by rw[hlen];exact(by repeat' (first|exact trivial|exact⟨_,.refl _,rfl⟩|apply And.intro))) (.cons 12 rfl rfl (.refl _) (by rw[hsn,hlen];rfl) (.cons 16 rfl rfl (.refl _) (by rw[hks];rfl) .nil)) rfl rfl (by rw[hK];rfl)⟩
   ·have hje:j=ys.length:=by omega
    rw[hje,List.take_length] at hJ' hD';refine gGo ?_;exact⟨2*E.length+1-(i+1),_,by omega,⟨i+1,D',hclose D' hJ',hN',by rw[hgo,hk2,hD'],rfl,rfl⟩,gX⟩
 ·have hie:i=D.length:=by omega
  have hend:farR Wy (2*E.length+1-i) i D=D:=by
   cases 2*E.length+1-i with
   |zero=>rfl
   |succ k=>rw[farR,if_neg (by omega)]
  rw[hgo,hend];refine gGo ?_;intros;refine W.leG (mp:=[]) (bo:=[12]) (st':=⟨[(4,.dmap (mkD (eO D)))],[],[]⟩)
   (LeG.mk' rfl rfl rfl ⟨⟨_,.omapF 12 0 _ _ _ rfl rfl (zQ _ _),rfl⟩,trivial⟩ .nil rfl rfl (by rw[hK];rfl)) ?_
  (refine gM ?_;conv=>whnf);exact ret0 rfl rfl rfl
end Go.Sx.Sp
