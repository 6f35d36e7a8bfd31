/- Reports of paths. -/
import Derived.Test.YthlokmbefpjmgaaGreatDoorJThree
import Derived.Test.YthlokmbefpjmgaaGreatDoorSxFive
import Derived.Test.YthlokmbefpjmgaaGreatDoorSxFour
set_option linter.unusedVariables false
set_option linter.unusedSimpArgs false
namespace Go.Sx.Sp
open Go Go.Sx Go.Proofs
attribute [local irreducible] aO famL
def eW(r:Rep)(n:Int):Rep:=⟨r.rows+n,if n=0 then r.lost+1 else r.lost,max r.most n,r.unused⟩
def repL(un:List Int)(cs:List Int):Rep:=cs.foldl eW ⟨0,0,0,un⟩
def repE(l:List Table)(p:Pth):Rep×Int:=if aD l p=0 then(repL (fq (aV l p) (p.steps.length+1)).1 (aK l p 0),0) else(⟨0,0,0,[]⟩,aD l p)
theorem ul(un:List Int){cs:List Int}{j:Nat}(h:j<cs.length):repL un (cs.take (j+1))=eW (repL un (cs.take j)) cs[j]:=by
 unfold repL;rw[List.take_succ_eq_append_getElem h,List.foldl_append];rfl
theorem fu{l:List Table}{p:Pth}(h:aD l p=0){i:Nat}(hi:i≤p.steps.length):∀x∈aK l p i,0≤x∧x≤1125899906842624:=by
 have hlen:=bW l p p.steps.length (Nat.le_refl _);obtain⟨k,hk⟩:∃k,k+i=p.steps.length:=⟨p.steps.length-i,by omega⟩
 have hnx:(runD (aJ l p p.steps.length) (p.steps.length+1) k)[i]?=some (aH l p p.steps.length i):=by
  obtain⟨d,h1,_,h3⟩:=fo hlen k (by omega) i _ (iq l p (Nat.le_refl _) hi);rw[h1,h3 (by omega)]
 have hst:∀q,i≤q→(aV l p)[q]?=(runD (aJ l p p.steps.length) (p.steps.length+1) (k+1))[q]?:=fun q hq=>by
  unfold aV;have:=dQ (aJ l p p.steps.length) (p.steps.length+1) q (k+1) i (by omega) (by omega);rw[show k+1+i=p.steps.length+1 by omega] at this;exact this
 have hst2:∀q,i<q→(aV l p)[q]?=(runD (aJ l p p.steps.length) (p.steps.length+1) k)[q]?:=fun q hq=>by
  rw[hst q (by omega)];exact dQ (aJ l p p.steps.length) (p.steps.length+1) q k 1 (by omega) (by omega)
 have hko:bg (runD (aJ l p p.steps.length) (p.steps.length+1) k) (aH l p p.steps.length i)=bg (aV l p) (aH l p p.steps.length i):=by
  refine j7 fun q hq=>?_;rw[cu] at hq;obtain⟨q',g1,g2,rfl⟩:=cI.1 hq;have:=bz p (i:=q') (by omega);exact(hst2 _ (by omega)).symm
 have hc:=nr h k (by omega);rw[show p.steps.length+1-1-k=i by omega] at hc;have hb:=hc.bnd;obtain⟨g1,g2⟩:=List.getElem?_eq_some_iff.1 hnx;rw[g2] at hb;intro x hx;unfold aK at hx;obtain⟨r,hr,rfl⟩:=List.mem_map.1 hx;have:=hb r (List.mem_range.1 hr) _ (Nat.le_refl _);rw[show(aH l p p.steps.length i).kids.length=(bg (runD (aJ l p p.steps.length) (p.steps.length+1) k) (aH l p p.steps.length i)).length by simp[bg],List.take_length,hko] at this;exact this
theorem rE(un:List Int)(M:Int)(hM:0≤M):∀(cs:List Int),(∀x∈cs,0≤x∧x≤M)→∀j,j≤cs.length→(0≤(repL un (cs.take j)).rows∧(repL un (cs.take j)).rows≤j*M)∧(0≤(repL un (cs.take j)).lost∧(repL un (cs.take j)).lost≤j)∧(0≤(repL un (cs.take j)).most∧(repL un (cs.take j)).most≤M)
 |cs,h,0,_=>by simp[repL];exact hM
 |cs,h,j+1,hj=>by
  have ih:=rE un M hM cs h j (by omega);have hx:=h cs[j] (List.getElem_mem (by omega));rw[ul un (show j<cs.length by omega)];have e:((j+1:Nat):Int)*M=j*M+M:=by rw[Int.natCast_add,Int.add_mul];simp
  rw[e];unfold eW;simp only;refine⟨by omega,?_,by omega⟩;split<;>omega
theorem j8(a:List Table)(t:Table):aa (a++[t])=aa a++[t.row]:=by simp[aa]
def fitC(a b:Cell):Bool:=!a.null&&(!b.null&&decide (a.text=b.text))
def bS(n:Nat)(f:Nat→Int):Int:=((List.range n).map f).sum
theorem bF(n:Nat)(f:Nat→Int):bS (n+1) f=bS n f+f n:=by simp[bS,List.range_succ]
theorem dR{n:Nat}{f g:Nat→Int}(h:∀y,y<n→f y=g y):bS n f=bS n g:=by
 unfold bS;rw[List.map_congr_left fun y hy=>h y (List.mem_range.1 hy)]
theorem ns{n:Nat}{f:Nat→Int}(h:∀y,y<n→0≤f y):0≤bS n f:=by
 induction n with
 |zero=>exact Int.le_refl _
 |succ n ih =>
  rw[bF];have:=ih fun y hy=>h y (by omega);have:=h n (by omega);omega
theorem BF{n:Nat}{f:Nat→Int}(h:∀y,y<n→0≤f y):0<bS n f↔∃y,y<n∧0<f y:=by
 induction n with
 |zero=>simp[bS]
 |succ n ih =>
  rw[bF];have ih:=ih fun y hy=>h y (by omega);have h0:=ns (n:=n) (f:=f) fun y hy=>h y (by omega);have h1:=h n (by omega);constructor
  ·intro h2;by_cases h3:0<f n
   ·exact⟨n,by omega,h3⟩
   ·obtain⟨y,a,b⟩:=ih.1 (by omega);exact⟨y,by omega,b⟩
  ·rintro⟨y,a,b⟩;by_cases e:y=n
   ·subst e;omega
   ·have:=ih.2 ⟨y,by omega,b⟩;omega
theorem iP(n:Nat)(c:Int):bS n (fun _=>c)=n*c:=by
 induction n with
 |zero=>simp[bS]
 |succ n ih=>rw[bF,ih,Int.natCast_add,Int.add_mul];simp
theorem BG(n:Nat)(f:Nat→Int)(c:Int):bS n (fun y=>c*f y)=c*bS n f:=by
 induction n with
 |zero=>simp[bS]
 |succ n ih=>rw[bF,bF,ih,Int.mul_add]
theorem lE(t:Table)(own:Nat)(cnt:Nat→Int)(s:Str):∀n,a8 (talR t own cnt n) s=bS n fun y=>if(!(ay t own y).null&&decide ((ay t own y).text=s))=true then cnt y else 0
 | 0=>rfl
 |n+1=>by
  have ih:=lE t own cnt s n;have e:talR t own cnt (n+1)=if(ay t own n).null=true then talR t own cnt n else addT (talR t own cnt n) (ay t own n).text (cnt n):=rfl
  rw[bF,←ih,e];clear e;cases hn:(ay t own n).null with
  |true=>simp
  |false =>
   rw[if_neg (by decide),oG,Bool.not_false,Bool.true_and];by_cases e:s=(ay t own n).text
   ·subst e;simp
   ·rw[if_neg e,if_neg (fun h=>e (of_decide_eq_true h).symm)];omega
section
variable (l:List Table) (p:Pth)
def tabN(i:Nat):Table:=(aH l p p.steps.length i).t
def frN(i:Nat):Nat:=(aH l p p.steps.length i).fr
def ownN(i:Nat):Nat:=(aH l p p.steps.length i).own
def cntI(i r:Nat):Int:=(aK l p i).getD r 0
def fitS(k:Nat)(c:Cell):Int:=bS (ab (tabN l p k)) fun y=>if fitC c (ay (tabN l p k) (ownN l p k) y)=true then cntI l p k y else 0
end
theorem fO{l:List Table}{p:Pth}(h:aD l p=0){i:Nat}(hi:i≤p.steps.length)(r:Nat):0≤cntI l p i r:=by
 unfold cntI;rw[List.getD_eq_getElem?_getD];cases e:(aK l p i)[r]? with
 |none=>simp
 |some x=>exact(fu h hi x (List.mem_of_getElem? e)).1
theorem xe{l:List Table}{p:Pth}(h:aD l p=0){i:Nat}(hi:i≤p.steps.length)(c:Cell):0≤fitS l p i c:=by
 unfold fitS;refine ns fun y hy=>?_;have:=fO h hi y;split<;>omega
theorem mE{α:Type}(f g:α→Nat→α):∀(l:List Nat) (x:α),(∀k∈l,∀x,f x k=g x k)→l.foldl f x=l.foldl g x
 | [],x,_=>rfl
 |k::l,x,h=>by
  rw[List.foldl_cons,List.foldl_cons,h k (by simp)];exact mE f g l _ fun k hk=>h k (by simp[hk])
theorem vJ{l:List Table}{p:Pth}{i r:Nat}(hi:i≤p.steps.length)(hr:r<ab (tabN l p i)) :
  cntI l p i r=(bY p p.steps.length i).foldl (fun x k=>x*fitS l p k (ay (tabN l p i) (frN l p k) r)) 1:=by
 unfold cntI aK;have hr':r<ab (aH l p p.steps.length i).t:=hr;rw[List.getD_eq_getElem?_getD,List.getElem?_map,List.getElem?_range hr'];simp only[Option.map_some,Option.getD_some];unfold cntR bg;rw[cu,List.foldl_map];refine mE _ _ _ _ fun k hk x=>?_;obtain⟨q,g1,g2,rfl⟩:=cI.1 hk;have hg:=kV l p (i:=q+1) (by omega);rw[List.getD_eq_getElem?_getD,hg];simp only[Option.getD_some];unfold mulK fitS Nod.tal;simp only;show(if(ay (tabN l p i) (frN l p (q+1)) r).null=true then 0 else x*a8 (jo l p (q+1)) (ay (tabN l p i) (frN l p (q+1)) r).text)=_;generalize ay (tabN l p i) (frN l p (q+1)) r=c;cases hn:c.null with
 |true =>
  have h0:∀y,fitC c (ay (tabN l p (q+1)) (ownN l p (q+1)) y)=false:=fun y=>by unfold fitC;rw[hn];rfl
  simp only[h0];have:=iP (ab (tabN l p (q+1))) 0;rw[Int.mul_zero] at this;simp[this]
 |false =>
  rw[if_neg (by decide)];congr 1;unfold jo;rw[if_neg (by omega),lE];refine dR fun y hy=>?_;have hy':y<ab (aH l p p.steps.length (q+1)).t:=hy;unfold fitC cntI aK;rw[hn,List.getD_eq_getElem?_getD,List.getElem?_map,List.getElem?_range hy'];simp only[Option.map_some,Option.getD_some,Bool.not_false,Bool.true_and];have e:decide ((ay (aH l p p.steps.length (q+1)).t (aH l p p.steps.length (q+1)).own y).text=c.text)=decide (c.text=(ay (tabN l p (q+1)) (ownN l p (q+1)) y).text):=decide_eq_decide.2 eq_comm;rw[e];rfl
end Go.Sx.Sp
namespace Go.Sx.Sp
open Go Go.Sx Go.Proofs
attribute [local irreducible] aO famL
theorem Ds(U:Nat→Option (List Str))(k:Nat)(t:Str)(k':Nat)(s:Str):hasU (insU U k t) k' s=true↔hasU U k' s=true∨(k'=k∧s=t):=by
 unfold hasU insU;by_cases e:k'=k
 ·subst e;simp only[if_true];cases hU:U k' with
  |none =>
   have:=xc (l:=[]) (s:=t) (u:=s);simp at this;simp[this]
  |some l =>
   have:=xc (l:=l) (s:=t) (u:=s);simp[this]
 ·simp[e]
theorem um(R:List Nod)(n:Nod)(r k:Nat)(s:Str)(U:Nat→Option (List Str)):∀j,j≤n.kids.length→(hasU (pC R n r U j) k s=true↔hasU U k s=true∨(k∈n.kids.take j∧s=(ay n.t (R.getD k n).fr r).text))
 | 0,_=>by simp[pC]
 |j+1,h=>by
  have ih:=um R n r k s U j (by omega);rw[zC R n r U (show j<n.kids.length by omega),Ds,ih,List.take_succ_eq_append_getElem (show j<n.kids.length by omega),List.mem_append];constructor
  ·rintro((h1|h1)|⟨rfl,h1⟩)
   ·exact .inl h1
   ·exact .inr ⟨.inl h1.1,h1.2⟩
   ·exact .inr ⟨.inr (by simp),h1⟩
  ·rintro(h1|⟨h1|h1,h2⟩)
   ·exact .inl (.inl h1)
   ·exact .inl (.inr ⟨h1,h2⟩)
   ·have h1:=List.mem_singleton.1 h1;subst h1;exact .inr ⟨rfl,h2⟩
section
variable (l:List Table) (p:Pth)
def eI(i:Nat):Nat→Option (List Str):=(fq (aV l p) i).2
def nodN(i:Nat):Nod:={ aH l p p.steps.length i with done:=some (aK l p i,jo l p i) }
def df(i r:Nat):Bool:=!lX (eI l p i) i (nodN l p i) (aK l p i) r
def unuN(i:Nat):Int:=bS (ab (tabN l p i)) fun r=>if df l p i r=true then 0 else 1
end
section
variable {l:List Table}{p:Pth}
theorem xf{U U':Nat→Option (List Str)}{i:Nat}{n:Nod}{c:List Int}{r:Nat}(h:∀s,hasU U i s=true↔hasU U' i s=true):lX U i n c r=lX U' i n c r:=by
 unfold lX;have:hasU U i (ay n.t n.own r).text=hasU U' i (ay n.t n.own r).text:=Bool.eq_iff_iff.2 (h _);rw[this]
theorem BH(i:Nat):(nodN l p i).kids=bY p p.steps.length i:=cu l p _ i
theorem mF{i:Nat}(hi:i≤p.steps.length):∀r,(f7 (aV l p) i (nodN l p i) (aK l p i) (eI l p i) r).unused=bS r (fun x=>if df l p i x=true then 0 else 1) ∧
  ∀k s,hasU (f7 (aV l p) i (nodN l p i) (aK l p i) (eI l p i) r).U k s=true↔hasU (eI l p i) k s=true∨(k∈bY p p.steps.length i∧∃x,x<r∧df l p i x=true∧s=(ay (tabN l p i) (frN l p k) x).text)
 | 0=>by
  refine⟨rfl,fun k s=>?_⟩;simp[f7]
 |r+1=>by
  obtain⟨ih1,ih2⟩:=mF hi r;have hii:∀s,hasU (f7 (aV l p) i (nodN l p i) (aK l p i) (eI l p i) r).U i s=true↔hasU (eI l p i) i s=true:=fun s=>by
   rw[ih2];constructor
   ·rintro(h|⟨h,_⟩)
    ·exact h
    ·obtain⟨q,g1,g2,g3⟩:=cI.1 h;have:=bz p (i:=q) (by omega);omega
   ·exact .inl
  rw[zB,bF,←ih1];unfold rowU;rw[xf hii];have hu:df l p i r=!lX (eI l p i) i (nodN l p i) (aK l p i) r:=rfl;cases hs:lX (eI l p i) i (nodN l p i) (aK l p i) r with
  |true =>
   rw[hs] at hu;have hu:df l p i r=false:=hu;rw[if_pos rfl,if_neg (by rw[hu];decide)];refine⟨rfl,fun k s=>?_⟩;rw[show(US.mk ((f7 (aV l p) i (nodN l p i) (aK l p i) (eI l p i) r).unused+1) (f7 (aV l p) i (nodN l p i) (aK l p i) (eI l p i) r).U).U=(f7 (aV l p) i (nodN l p i) (aK l p i) (eI l p i) r).U from rfl,ih2];constructor
   ·rintro(h|⟨h1,x,h2,h3⟩)
    ·exact .inl h
    ·exact .inr ⟨h1,x,by omega,h3⟩
   ·rintro(h|⟨h1,x,h2,h3,h4⟩)
    ·exact .inl h
    ·have:x≠r:=fun e=>by subst e;rw[hu] at h3;cases h3
     exact .inr ⟨h1,x,by omega,h3,h4⟩
  |false =>
   rw[hs] at hu;have hu:df l p i r=true:=hu;rw[if_neg (by decide),if_pos hu];refine⟨by simp,fun k s=>?_⟩;rw[show(US.mk (f7 (aV l p) i (nodN l p i) (aK l p i) (eI l p i) r).unused (pC (aV l p) (nodN l p i) r (f7 (aV l p) i (nodN l p i) (aK l p i) (eI l p i) r).U (nodN l p i).kids.length)).U=pC (aV l p) (nodN l p i) r (f7 (aV l p) i (nodN l p i) (aK l p i) (eI l p i) r).U (nodN l p i).kids.length from rfl,
    um _ _ _ _ _ _ _ (Nat.le_refl _),ih2,List.take_length,BH]
   have hfr:k∈bY p p.steps.length i→(ay (nodN l p i).t ((aV l p).getD k (nodN l p i)).fr r).text=(ay (tabN l p i) (frN l p k) r).text:=fun hk=>by
    obtain⟨q,g1,g2,rfl⟩:=cI.1 hk;have hg:=kV l p (i:=q+1) (by omega);rw[List.getD_eq_getElem?_getD,hg];rfl
   constructor
   ·rintro((h|⟨h1,x,h2,h3⟩)|⟨h1,h2⟩)
    ·exact .inl h
    ·exact .inr ⟨h1,x,by omega,h3⟩
    ·exact .inr ⟨h1,r,by omega,hu,by rw[h2,hfr h1]⟩
   ·rintro(h|⟨h1,x,h2,h3,h4⟩)
    ·exact .inl (.inl h)
    ·by_cases e:x=r
     ·subst e;exact .inr ⟨h1,by rw[hfr h1];exact h4⟩
     ·exact .inl (.inr ⟨h1,x,by omega,h3,h4⟩)
theorem kW{i:Nat}(hi:i≤p.steps.length):fq (aV l p) (i+1)=(if 0<i then(fq (aV l p) i).1++[unuN l p i] else(fq (aV l p) i).1,(f7 (aV l p) i (nodN l p i) (aK l p i) (eI l p i) (ab (tabN l p i))).U):=by
 have hg:(aV l p)[i]?=some (nodN l p i):=kV l p hi;have hc:cntD (nodN l p i)=aK l p i:=rfl;have hlen:(aK l p i).length=ab (tabN l p i):=cA l p i;have hu:=(mF (l:=l) hi (ab (tabN l p i))).1;simp only[fq,hg,hc,hlen];unfold unuN;rw[←hu];rfl
theorem rF:∀i,i≤p.steps.length+1→∀q,q<p.steps.length→∀s,hasU (eI l p i) (q+1) s=true↔parI p q<i∧∃x,x<ab (tabN l p (parI p q))∧df l p (parI p q) x=true∧s=(ay (tabN l p (parI p q)) (frN l p (q+1)) x).text
 | 0,_,q,hq,s=>by
  have:eI l p 0=fun _=>none:=rfl;rw[this];simp[hasU]
 |i+1,hi,q,hq,s=>by
  have ih:=rF i (by omega) q hq s;have hs:eI l p (i+1)=(f7 (aV l p) i (nodN l p i) (aK l p i) (eI l p i) (ab (tabN l p i))).U:=by
   show(fq (aV l p) (i+1)).2=_;rw[kW (by omega)]
  rw[hs,(mF (l:=l) (p:=p) (by omega) _).2,ih];constructor
  ·rintro(⟨h1,h2⟩|⟨h1,h2⟩)
   ·exact⟨by omega,h2⟩
   ·obtain⟨q',g1,g2,g3⟩:=cI.1 h1;have:q'=q:=by omega
    subst this;subst g2;exact⟨by omega,h2⟩
  ·rintro⟨h1,h2⟩;by_cases e:parI p q=i
   ·subst e;exact .inr ⟨cI.2 ⟨q,hq,rfl,rfl⟩,h2⟩
   ·exact .inl ⟨by omega,h2⟩
theorem kX:∀i,i≤p.steps.length→(fq (aV l p) (i+1)).1=(List.range i).map fun q=>unuN l p (q+1)
 | 0,h=>by rw[kW (Nat.zero_le _)];rfl
 |i+1,h=>by
  have ih:=kX i (by omega);rw[kW h,List.range_succ,List.map_append,←ih];simp
theorem xg(f:Nat→Int):∀(l:List Nat) (x:Int),l.foldl (fun x k=>x*f k) x≠0↔x≠0∧∀k∈l,f k≠0
 | [],x=>by simp
 |k::l,x=>by
  rw[List.foldl_cons,xg f l,Int.mul_ne_zero_iff];simp[and_assoc]
theorem nt{i r:Nat}(hi:i≤p.steps.length)(hr:r<ab (tabN l p i)):cntI l p i r≠0↔∀q,q<p.steps.length→parI p q=i→fitS l p (q+1) (ay (tabN l p i) (frN l p (q+1)) r)≠0:=by
 rw[vJ hi hr,xg (fun k=>fitS l p k (ay (tabN l p i) (frN l p k) r))];constructor
 ·rintro⟨_,h⟩ q hq rfl;exact h _ (cI.2 ⟨q,hq,rfl,rfl⟩)
 ·intro h;refine⟨by decide,fun k hk=>?_⟩;obtain⟨q,g1,g2,rfl⟩:=cI.1 hk;exact h q g1 g2
theorem oN{k:Nat}{c:Cell}(h:c.null=true):fitS l p k c=0:=by
 unfold fitS;have h0:∀y,fitC c (ay (tabN l p k) (ownN l p k) y)=false:=fun y=>by unfold fitC;rw[h];rfl
 simp only[h0];have:=iP (ab (tabN l p k)) 0;rw[Int.mul_zero] at this;simp[this]
theorem ir(r:Nat):df l p 0 r=true↔cntI l p 0 r≠0:=by
 unfold df lX;simp[cntI]
theorem BI{i r:Nat}(h:df l p i r=true):cntI l p i r≠0:=by
 unfold df lX at h;intro h0;unfold cntI at h0;rw[h0] at h;simp at h
theorem mG{q y:Nat}(hq:q<p.steps.length):df l p (q+1) y=true↔cntI l p (q+1) y≠0∧∃x,x<ab (tabN l p (parI p q))∧df l p (parI p q) x=true∧fitC (ay (tabN l p (parI p q)) (frN l p (q+1)) x) (ay (tabN l p (q+1)) (ownN l p (q+1)) y)=true:=by
 have hc:=rF (l:=l) (p:=p) (q+1) (by omega) q hq (ay (tabN l p (q+1)) (ownN l p (q+1)) y).text;have hpar:=bz p (i:=q) (by omega);have e:df l p (q+1) y=(!(decide (cntI l p (q+1) y=0) ||(ay (tabN l p (q+1)) (ownN l p (q+1)) y).null||!hasU (eI l p (q+1)) (q+1) (ay (tabN l p (q+1)) (ownN l p (q+1)) y).text)):=by
  unfold df lX;rw[decide_eq_true (show 0<q+1 by omega),Bool.true_and,←Bool.or_assoc];rfl
 rw[e];constructor
 ·intro h;simp only[Bool.not_or,Bool.and_eq_true,Bool.not_eq_true',decide_eq_false_iff_not,Bool.not_not] at h;obtain⟨⟨h1,h2⟩,h3⟩:=h;obtain⟨_,x,g1,g2,g3⟩:=hc.1 h3;refine⟨h1,x,g1,g2,?_⟩;have hne:=(nt (by omega) g1).1 (BI g2) q hq rfl;have hnn:(ay (tabN l p (parI p q)) (frN l p (q+1)) x).null=false:=by
   cases hn:(ay (tabN l p (parI p q)) (frN l p (q+1)) x).null with
   |false=>rfl
   |true=>exact absurd (oN hn) hne
  unfold fitC;rw[hnn,h2,decide_eq_true g3.symm];rfl
 ·rintro⟨h1,x,g1,g2,g3⟩;unfold fitC at g3;simp only[Bool.and_eq_true,Bool.not_eq_true',decide_eq_true_eq] at g3;have h3:=hc.2 ⟨by omega,x,g1,g2,g3.2.2.symm⟩;rw[h3,g3.2.1,decide_eq_false h1];rfl
end
end Go.Sx.Sp
namespace Go.Sx.Sp
open Go Go.Sx Go.Proofs
attribute [local irreducible] aO famL
end Go.Sx.Sp
namespace Go.Sx.Sp
open Go Go.Sx Go.Proofs Go.RowKit
attribute [local irreducible] aO famL
theorem Dt{n:Nat}{u:V}(hs:cn T (n+2) 22 u):∃l:List Int,u=.sl (aq .i64 l) false:=by
 obtain⟨rows,hr,_,h⟩:=rf (T:=T) (t:=22) rfl (nf (T:=T) (t:=22) rfl rfl hs);obtain⟨l,rfl,_⟩:=ng (f:=fun x:Int=>[V.int .i64 x]) (p:=fun _=>True) (rows:=rows) fun r hr=>by
  obtain⟨x,rfl,_⟩:=oz (T:=T) (t:=3) rfl (h r hr);exact⟨x,rfl,trivial⟩
 cases hr;exact⟨l,rfl⟩
theorem vK{n:Nat}{u:V}(hs:cn T (n+1) 3 u):∃x:Int,u=.int .i64 x∧-9223372036854775808≤x∧x≤9223372036854775807:=by
 obtain⟨x,h,h1,h2⟩:=oz (T:=T) (t:=3) rfl (nf (T:=T) (t:=3) rfl rfl hs);cases h;rw[show IntKind.i64.min=-9223372036854775808 by decide] at h1;rw[show IntKind.i64.max=9223372036854775807 by decide] at h2;exact⟨x,rfl,h1,h2⟩
end Go.Sx.Sp
namespace Go.Sx.Sp
open Go Go.Sx Go.Proofs
attribute [local irreducible] aO famL
noncomputable def pD(ws:List Str)(l:List Int)(p:Nat):Str:=if h:ws≠[]∧ws.length≤4611686018427387904∧p≤l.length then Classical.choose (t1 l p ws h.1 h.2.1 h.2.2) else []
theorem j9{ws:List Str}{l:List Int}{p:Nat}(h1:ws≠[])(h2:ws.length≤4611686018427387904)(h:p≤l.length):pD ws l p∈ws∧Spec Tryz.prog 25 [.bp 0 0,.sl (ly ws) false] [(0,ed l p)] (.str (pD ws l p)) [(0,ed l (aM l p))]:=by
 have:=Classical.choose_spec (t1 l p ws h1 h2 h);simp only[pD,dif_pos (show ws≠[]∧ws.length≤4611686018427387904∧p≤l.length from⟨h1,h2,h⟩)];exact this
def seqF{α:Type}(step:Nat→Nat→α×Nat):Nat→Nat→Nat→List α×Nat
 | 0,_,p=>([],p)
 |n+1,i,p=>((step i p).1::(seqF step n (i+1) (step i p).2).1,(seqF step n (i+1) (step i p).2).2)
theorem nu{α:Type}(step:Nat→Nat→α×Nat):∀n i p,(seqF step n i p).1.length=n
 | 0,_,_=>rfl
 |n+1,i,p=>by simp only[seqF,List.length_cons,nu step n]
theorem lF{α:Type}{step:Nat→Nat→α×Nat}{L:Nat}{Q:Nat→α→Prop}(h:∀i p,p≤L→Q i (step i p).1∧(step i p).2≤L):∀n i p,p≤L→(∀j (hj:j<(seqF step n i p).1.length),Q (i+j) (seqF step n i p).1[j])∧(seqF step n i p).2≤L
 | 0,_,p,hp=>⟨fun j hj=>(by cases hj),hp⟩
 |n+1,i,p,hp=>by
  obtain⟨h1,h2⟩:=h i p hp;obtain⟨h3,h4⟩:=lF h n (i+1) _ h2;refine⟨fun j hj=>?_,h4⟩;cases j with
  |zero=>exact h1
  |succ j =>
   have:=h3 j (by simp only[seqF,List.length_cons] at hj;omega);rw[show i+(j+1)=i+1+j by omega];exact this
def oO:List Str:=[[97],[98],[99],[97]]
def mH:List Str:=[[105,100],[107,101,121],[118]]
noncomputable def iu(l:List Int)(p:Nat):Cell×Nat:=(if dw l (aM l p) 9=1 then⟨true,[]⟩ else⟨false,pD oO l p⟩,aM l (aM l p))
noncomputable def colJ(l:List Int)(rows p:Nat):Column×Nat:=(⟨pD mH l p,(seqF (fun _ q=>iu l q) rows 0 (aM l p)).1⟩,(seqF (fun _ q=>iu l q) rows 0 (aM l p)).2)
def nv(l:List Int)(p:Nat):Nat:=1+(dw l p 5).toNat
def uo(l:List Int)(p:Nat):Nat:=1+(dw l (aM l p) 2).toNat
noncomputable def tabJ(l:List Int)(k p:Nat):Table×Nat:=(⟨(k+1:Nat),[106],(seqF (fun _ q=>colJ l (nv l p) q) (uo l p) 0 (aM l (aM l p))).1⟩,(seqF (fun _ q=>colJ l (nv l p) q) (uo l p) 0 (aM l (aM l p))).2)
def Du(l:List Int)(most:Int)(p:Nat):Nat:=2+(dw l p (most-1)).toNat
noncomputable def dK(l:List Int)(most:Int)(p:Nat):List Table×Nat:=seqF (fun k q=>tabJ l k q) (Du l most p) 0 (aM l p)
structure CellJ (c:Cell):Prop where
 ok:c=⟨true,[]⟩∨(c.null=false∧c.text∈oO)
structure ColJ (n:Nat) (c:Column):Prop where
 name:c.name∈mH
 len:c.cells.length=n
 cells:∀x∈c.cells,CellJ x
structure TabJ (k:Nat) (t:Table):Prop where
 id:t.id=(k+1:Nat)
 name:t.name=[106]
 few:1≤t.cols.length∧t.cols.length≤2
 cols:∃n,1≤n∧n≤5∧∀c∈t.cols,ColJ n c
theorem xh{l:List Int}{p:Nat}(hp:p≤l.length):CellJ (iu l p).1∧(iu l p).2≤l.length:=by
 refine⟨⟨?_⟩,bC (bC hp)⟩;unfold iu;simp only;split
 ·exact .inl rfl
 ·exact .inr ⟨rfl,(j9 (ws:=oO) (by decide) (by decide) hp).1⟩
theorem AJ{l:List Int}{n p:Nat}(hp:p≤l.length):ColJ n (colJ l n p).1∧(colJ l n p).2≤l.length:=by
 obtain⟨h1,h2⟩:=lF (step:=fun _ q=>iu l q) (Q:=fun _ c=>CellJ c) (fun i q hq=>xh hq) n 0 _ (bC hp);refine⟨⟨(j9 (ws:=mH) (by decide) (by decide) hp).1,nu _ _ _ _,fun x hx=>?_⟩,h2⟩;obtain⟨j,hj,rfl⟩:=List.getElem_of_mem hx;exact h1 j hj
theorem AK{l:List Int}{k p:Nat}(hp:p≤l.length):TabJ k (tabJ l k p).1∧(tabJ l k p).2≤l.length:=by
 obtain⟨h1,h2⟩:=lF (step:=fun _ q=>colJ l (nv l p) q) (Q:=fun _ c=>ColJ (nv l p) c) (fun i q hq=>AJ hq) (uo l p) 0 _ (bC (bC hp));have hr:=bR l p (n:=5) (by omega);have hc:=bR l (aM l p) (n:=2) (by omega);refine⟨⟨rfl,rfl,?_,nv l p,?_,?_,fun c hx=>?_⟩,h2⟩
 ·show 1≤(seqF (fun _ q=>colJ l (nv l p) q) (uo l p) 0 (aM l (aM l p))).1.length∧(seqF (fun _ q=>colJ l (nv l p) q) (uo l p) 0 (aM l (aM l p))).1.length≤2;rw[nu];unfold uo;omega
 ·unfold nv;omega
 ·unfold nv;omega
 ·obtain⟨j,hj,rfl⟩:=List.getElem_of_mem hx;exact h1 j hj
theorem BJ{l:List Int}{most:Int}{p:Nat}(hm:2≤most∧most≤100)(hp:p≤l.length):(2≤(dK l most p).1.length∧(dK l most p).1.length≤most.toNat)∧(∀k (hk:k<(dK l most p).1.length),TabJ k (dK l most p).1[k])∧(dK l most p).2≤l.length:=by
 obtain⟨h1,h2⟩:=lF (step:=fun k q=>tabJ l k q) (Q:=TabJ) (fun i q hq=>AK hq) (Du l most p) 0 _ (bC hp);have hr:=bR l p (n:=most-1) (by omega);refine⟨?_,fun k hk=>?_,h2⟩
 ·unfold dK;rw[nu];unfold Du;omega
 ·have:=h1 k hk;rw[Nat.zero_add] at this;exact this
theorem cG(a:List Cell)(c:Cell):aj (a++[c])=aj a++[c.row]:=by simp[aj]
section
variable (l:List Table) (p:Pth)
def cX(q x y:Nat):Bool:=fitC (ay (tabN l p (parI p q)) (frN l p (q+1)) x) (ay (tabN l p (q+1)) (ownN l p (q+1)) y)
structure CombK (k:Nat) (r:Nat→Nat):Prop where
 lt:∀i,i<k→r i<ab (tabN l p i)
 fit:∀q,q+1<k→cX l p q (r (parI p q)) (r (q+1))=true
def Comb(r:Nat→Nat):Prop:=CombK l p (p.steps.length+1) r
end
section
variable {l:List Table}{p:Pth}
theorem xi(h:aD l p=0){k:Nat}(hk:k≤p.steps.length)(c:Cell):fitS l p k c≠0↔∃y,y<ab (tabN l p k)∧fitC c (ay (tabN l p k) (ownN l p k) y)=true∧cntI l p k y≠0:=by
 have h0:∀y,y<ab (tabN l p k)→0≤(if fitC c (ay (tabN l p k) (ownN l p k) y)=true then cntI l p k y else 0):=fun y hy=>by
  have:=fO h hk y;split<;>omega
 have hp:=BF h0;have hn:=xe h hk c;unfold fitS at *;constructor
 ·intro h1;obtain⟨y,a,b⟩:=hp.1 (by omega);refine⟨y,a,?_⟩;split at b
  ·rename_i hf;exact⟨hf,by omega⟩
  ·omega
 ·rintro⟨y,a,b,c⟩;have:=hp.2 ⟨y,a,by rw[if_pos b];have:=fO h hk y;omega⟩;omega
theorem Dv(h:aD l p=0){r:Nat→Nat}(hr:Comb l p r):∀k,k≤p.steps.length→cntI l p (p.steps.length-k) (r (p.steps.length-k))≠0:=by
 intro k
 induction k using Nat.strongRecOn with
 |ind k ih =>
  intro hk;rw[nt (by omega) (hr.lt _ (by omega))];intro q hq hpar;have hle:=bz p (i:=q) (by omega);rw[xi h (by omega)];refine⟨r (q+1),hr.lt _ (by omega),?_,?_⟩
  ·have:=hr.fit q (by omega);unfold cX at this;rw[hpar] at this;exact this
  ·have:=ih (p.steps.length-(q+1)) (by omega) (by omega)
   rwa [show p.steps.length-(p.steps.length-(q+1))=q+1 by omega] at this
theorem lG(h:aD l p=0){r:Nat→Nat}(hr:Comb l p r){i:Nat}(hi:i≤p.steps.length):cntI l p i (r i)≠0:=by
 have:=Dv h hr (p.steps.length-i) (by omega)
 rwa [show p.steps.length-(p.steps.length-i)=i by omega] at this
theorem BK(h:aD l p=0){r:Nat→Nat}(hr:Comb l p r):∀i,i≤p.steps.length→df l p i (r i)=true:=by
 intro i
 induction i using Nat.strongRecOn with
 |ind i ih =>
  intro hi;cases i with
  |zero=>exact(ir _).2 (lG h hr hi)
  |succ q =>
   have hle:=bz p (i:=q) (by omega);exact(mG (by omega)).2 ⟨lG h hr hi,r (parI p q),hr.lt _ (by omega),ih _ (by omega) (by omega),hr.fit q (by omega)⟩
structure PartK (l:List Table) (p:Pth) (k:Nat) (r:Nat→Nat):Prop extends CombK l p k r where
 cnt:∀i,i<k→cntI l p i (r i)≠0
theorem Dw(h:aD l p=0){k:Nat}(h1:1≤k)(hk:k≤p.steps.length){r:Nat→Nat}(hr:PartK l p k r):∃r',PartK l p (k+1) r'∧∀i,i<k→r' i=r i:=by
 obtain⟨q,rfl⟩:∃q,k=q+1:=⟨k-1,by omega⟩
 have hle:=bz p (i:=q) (by omega);have hc:=(nt (by omega) (hr.lt (parI p q) (by omega))).1 (hr.cnt _ (by omega)) q (by omega) rfl;obtain⟨y,g1,g2,g3⟩:=(xi h (by omega) _).1 hc;refine⟨fun i=>if i=q+1 then y else r i,⟨⟨fun i hi=>?_,fun q' hq'=>?_⟩,fun i hi=>?_⟩,fun i hi=>?_⟩
 ·by_cases e:i=q+1
  ·subst e;simpa using g1
  ·simp only[if_neg e];exact hr.lt i (by omega)
 ·have hle':=bz p (i:=q') (by omega);simp only[if_neg (show ¬parI p q'=q+1 by omega)];by_cases e:q'=q
  ·subst e;simp only[if_true];exact g2
  ·simp only[if_neg (show ¬q' + 1=q+1 by omega)];exact hr.fit q' (by omega)
 ·by_cases e:i=q+1
  ·subst e;simpa using g3
  ·simp only[if_neg e];exact hr.cnt i (by omega)
 ·simp only[if_neg (show ¬i=q+1 by omega)]
theorem oP(h:aD l p=0){r:Nat→Nat}:∀(d k:Nat),1≤k→k+d=p.steps.length+1→PartK l p k r→∃r',Comb l p r'∧∀i,i<k→r' i=r i
 | 0,k,h1,hk,hr=>by
  obtain rfl:k=p.steps.length+1:=by omega
  exact⟨r,hr.toCombK,fun _ _=>rfl⟩
 |d+1,k,h1,hk,hr=>by
  obtain⟨r1,g1,g2⟩:=Dw h h1 (by omega) hr;obtain⟨r2,g3,g4⟩:=oP h d (k+1) (by omega) (by omega) g1;exact⟨r2,g3,fun i hi=>by rw[g4 i (by omega),g2 i hi]⟩
theorem BL(h:aD l p=0):∀i,i≤p.steps.length→∀y,y<ab (tabN l p i)→df l p i y=true→∃r,Comb l p r∧r i=y:=by
 intro i
 induction i using Nat.strongRecOn with
 |ind i ih =>
  intro hi y hy hu;cases i with
  |zero =>
   have hc:=(ir y).1 hu;obtain⟨r,g1,g2⟩:=oP h (r:=fun _=>y) p.steps.length 1 (by omega) (by omega) ⟨⟨fun i hi=>(by have e:i=0:=(by omega);subst e;exact hy),fun q hq=>(by omega)⟩,fun i hi=>(by have e:i=0:=(by omega);subst e;exact hc)⟩;exact⟨r,g1,g2 0 (by omega)⟩
  |succ q =>
   have hle:=bz p (i:=q) (by omega);obtain⟨hc,x,g1,g2,g3⟩:=(mG (by omega)).1 hu;obtain⟨r0,k1,k2⟩:=ih (parI p q) (by omega) (by omega) x g1 g2;have hpk:PartK l p (q+2) (fun i=>if i=q+1 then y else r0 i):=by
    refine⟨⟨fun i hi=>?_,fun q' hq'=>?_⟩,fun i hi=>?_⟩
    ·by_cases e:i=q+1
     ·subst e;simpa using hy
     ·simp only[if_neg e];exact k1.lt i (by omega)
    ·have hle':=bz p (i:=q') (by omega);simp only[if_neg (show ¬parI p q'=q+1 by omega)];by_cases e:q'=q
     ·subst e;simp only[if_true];rw[k2];exact g3
     ·simp only[if_neg (show ¬q' + 1=q+1 by omega)];exact k1.fit q' (by omega)
    ·by_cases e:i=q+1
     ·subst e;simpa using hc
     ·simp only[if_neg e];exact lG h k1 (by omega)
   obtain⟨r,m1,m2⟩:=oP h (p.steps.length-(q+1)) (q+2) (by omega) (by omega) hpk;exact⟨r,m1,by rw[m2 (q+1) (by omega)];simp⟩
theorem Dx(un:List Int)(n:Nat)(f:Nat→Int):(repL un ((List.range n).map f)).rows=bS n f∧(repL un ((List.range n).map f)).lost=bS n (fun r=>if f r=0 then 1 else 0)∧(repL un ((List.range n).map f)).unused=un:=by
 induction n with
 |zero=>exact⟨rfl,rfl,rfl⟩
 |succ n ih =>
  rw[List.range_succ,List.map_append];unfold repL at *;rw[List.foldl_append,bF,bF,←ih.1,←ih.2.1];refine⟨rfl,?_,?_⟩
  ·simp only[List.map_cons,List.map_nil,List.foldl_cons,List.foldl_nil,eW];split<;>simp
  ·exact ih.2.2
theorem Dy:aK l p 0=(List.range (ab (tabN l p 0))).map (cntI l p 0):=by
 refine List.ext_getElem (by rw[cA,List.length_map,List.length_range];rfl) fun r h1 h2=>?_;simp only[List.getElem_map,List.getElem_range];unfold cntI;rw[List.getD_eq_getElem?_getD,List.getElem?_eq_getElem h1];rfl
theorem FC(h:aD l p=0):(repE l p).2=0∧(repE l p).1.rows=bS (ab (tabN l p 0)) (cntI l p 0)∧(repE l p).1.lost=unuN l p 0∧(repE l p).1.unused=(List.range p.steps.length).map fun q=>unuN l p (q+1):=by
 unfold repE;rw[if_pos h,Dy];have:=Dx (fq (aV l p) (p.steps.length+1)).1 (ab (tabN l p 0)) (cntI l p 0);refine⟨rfl,this.1,?_,?_⟩
 ·rw[this.2.1];unfold unuN;refine dR fun r hr=>?_;by_cases e:cntI l p 0 r=0
  ·rw[if_pos e,if_neg (fun hu=>(ir r).1 hu e)]
  ·rw[if_neg e,if_pos ((ir r).2 e)]
 ·rw[this.2.2,kX _ (Nat.le_refl _)]
end
end Go.Sx.Sp
namespace Go.Sx.Sp
open Go Go.Sx Go.Proofs
attribute [local irreducible] aO famL
theorem uq:∀(l:List Table) (k:Nat),(∀j (hj:j<l.length),l[j].id=((k+j:Nat):Int))→ascB l=true
 | [],_,_=>rfl
 | [a],_,_=>rfl
 |a::b::r,k,h=>by
  have h0:=h 0 (by simp);have h1:=h 1 (by simp);have ih:=uq (b::r) (k+1) (fun j hj=>by
   have:=h (j+1) (by simp at hj ⊢;omega)
   simp only[List.getElem_cons_succ] at this
   rw[this]
   congr 1;omega)
  simp only[List.getElem_cons_zero,List.getElem_cons_succ] at h0 h1;simp only[ascB,ih,Bool.and_true,decide_eq_true_eq];omega
theorem Dz{k:Nat}{t:Table}(h:TabJ k t)(hk:k<100):aR t=true:=by
 obtain⟨n,n1,n2,hc⟩:=h.cols;have hrows:ab t=n:=by
  unfold ab;have hf:=h.few;cases e:t.cols with
  |nil=>rw[e] at hf;simp at hf
  |cons c cs=>exact(hc c (by rw[e];simp)).len
 have hid:=h.id;have hf:=h.few;unfold aR;have h1:eg t=true:=by
  unfold eg;have a1:decide ((0:Int)≤t.id∧t.id≤1073741824)=true:=decide_eq_true ⟨by omega,by omega⟩;have a2:dJ t.name=true:=by rw[h.name];decide +kernel
  rw[a1,a2,decide_eq_true (show t.cols.length≤64 by omega),decide_eq_true (show ab t≤4096 by omega)];rfl
 have h2:t.cols.any (bN t)=false:=by
  rw[List.any_eq_false];intro c hcm;have g:=hc c hcm;have b1:∀s∈mH,dJ s=true:=by decide +kernel
  have b2:∀s∈oO,dJ s=true:=by decide +kernel
  have b3:dJ []=true:=by decide +kernel
  unfold bN;have b4:c.cells.all dO=true:=by
   rw[List.all_eq_true];intro x hx;rcases(g.cells x hx).ok with rfl|⟨h3,h4⟩
   ·decide +kernel
   ·unfold dO;rw[b2 _ h4,h3];rfl
  rw[b1 _ g.name,b4,g.len,hrows];simp
 rw[h1,h2];rfl
theorem EU{l:List Table}(h:∀k (hk:k<l.length),TabJ k l[k])(hl:l.length≤100):bO l=true:=by
 unfold bO;have h1:ascB l=true:=uq l 1 (fun j hj=>by rw[(h j hj).id];congr 1;omega);have h2:l.all aR=true:=by
  rw[List.all_eq_true];intro t ht;obtain⟨k,hk,rfl⟩:=List.getElem_of_mem ht;exact Dz (h k hk) (by omega)
 rw[h1,h2,decide_eq_true (show l.length≤1024 by omega)];rfl
section
variable (A B C:List Column) (a b c e:Nat)
end
section
variable {A B C:List Column}{a b c e:Nat}
end
end Go.Sx.Sp
namespace Go.Sx.Sp
open Go Go.Sx Go.Proofs
attribute [local irreducible] aO famL
end Go.Sx.Sp
