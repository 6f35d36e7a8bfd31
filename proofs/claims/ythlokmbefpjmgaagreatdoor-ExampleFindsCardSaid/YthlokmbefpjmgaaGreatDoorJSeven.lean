/- Rows and counts; lists of numbers by texts. -/
import Derived.Test.YthlokmbefpjmgaaGreatDoorJSix
import Derived.Test.YthlokmbefpjmgaaGreatDoorSxFive
import Derived.Test.YthlokmbefpjmgaaGreatDoorJFour
import Derived.Test.YthlokmbefpjmgaaGreatDoorSxFour
set_option linter.unusedVariables false
set_option linter.unusedSimpArgs false
set_option maxHeartbeats 32000000
namespace Go.Sx.Sp
open Go Go.Sx Go.Proofs
attribute [local irreducible] aO famL
def addN(l:List Int)(s:Int):List Int:=match ixI s l with|some _=>l|none=>l++[s]
theorem DP{l:List Int}{s u:Int}:u∈addN l s↔u∈l∨u=s:=by
 unfold addN;cases h:ixI s l with
 |none=>simp
 |some j =>
  have:=List.mem_of_getElem? (oK h);simp only;exact⟨.inl,fun h=>h.elim id (fun e=>e ▸ this)⟩
theorem zL{l:List Int}{s:Int}(h:l.Nodup):(addN l s).Nodup:=by
 unfold addN;cases hx:ixI s l with
 |some j=>exact h
 |none =>
  have:=cM.1 hx;exact List.nodup_append.2 ⟨h,by simp,fun a ha b hb=>by simp at hb;subst hb;exact fun e=>this (e ▸ ha)⟩
def mL(k:Nat)(L:List (List Nat)):List Int:=L.foldl (fun S x=>addN S (x.getD k 0:Nat)) []
theorem BZ(k:Nat)(L:List (List Nat)):(mL k L).Nodup∧∀u,u∈mL k L↔∃x∈L,u=((x.getD k 0:Nat):Int):=by
 have:∀(L:List (List Nat)) (S:List Int),S.Nodup→(L.foldl (fun S x=>addN S (x.getD k 0:Nat)) S).Nodup∧∀u,u∈L.foldl (fun S x=>addN S (x.getD k 0:Nat)) S↔u∈S∨∃x∈L,u=((x.getD k 0:Nat):Int):=by
  intro L
  induction L with
  |nil=>intro S h;exact⟨h,fun u=>by simp⟩
  |cons x L ih =>
   intro S h;obtain⟨h1,h2⟩:=ih (addN S (x.getD k 0:Nat)) (zL h);refine⟨h1,fun u=>?_⟩;rw[List.foldl_cons,h2 u,DP];simp only[List.mem_cons,exists_eq_or_imp,or_assoc]
 obtain⟨h1,h2⟩:=this L [] List.nodup_nil;refine⟨h1,fun u=>?_⟩;have:=h2 u;unfold mL;rw[this];simp
theorem B0(n:Nat)(P:Nat→Bool):bS n (fun y=>if P y=true then 0 else 1)=n-((List.range n).filter P).length:=by
 induction n with
 |zero=>rfl
 |succ n ih =>
  rw[bF,ih,List.range_succ,List.filter_append,List.length_append];cases hp:P n with
  |true=>simp[hp];omega
  |false=>simp[hp];omega
theorem B1{S:List Int}{n:Nat}{P:Nat→Bool}(h:S.Nodup)(hm:∀u,u∈S↔∃y,y<n∧P y=true∧u=(y:Int)):S.length=((List.range n).filter P).length:=by
 have hp:S.Perm (((List.range n).filter P).map fun(y:Nat)=>(y:Int)):=by
  have hn:(((List.range n).filter P).map fun(y:Nat)=>(y:Int)).Nodup:=by
   have h0:((List.range n).filter P).Nodup:=List.nodup_range.filter _;rw[List.nodup_iff_pairwise_ne] at *;rw[List.pairwise_map];exact h0.imp fun h e=>h (Int.ofNat.inj e)
  rw[List.perm_iff_count];intro a;rw[h.count,hn.count];have:a∈S↔a∈((List.range n).filter P).map fun(y:Nat)=>(y:Int):=by
   rw[hm a];simp only[List.mem_map,List.mem_filter,List.mem_range];constructor
   ·rintro⟨y,h1,h2,h3⟩;exact⟨y,⟨h1,h2⟩,h3.symm⟩
   ·rintro⟨y,⟨h1,h2⟩,h3⟩;exact⟨y,h1,h2,h3.symm⟩
  by_cases e:a∈S
  ·rw[if_pos e,if_pos (this.1 e)]
  ·rw[if_neg e,if_neg (fun h=>e (this.2 h))]
 have:=hp.length_eq
 rwa [List.length_map] at this
section
variable {l:List Table}{p:Pth}
theorem DQ(h:aD l p=0){i:Nat}(hi:i≤p.steps.length):unuN l p i=ab (tabN l p i)-(mL i (a6 l p)).length:=by
 unfold unuN;rw[B0];obtain⟨h1,h2⟩:=BZ i (a6 l p);have:=B1 (n:=ab (tabN l p i)) (P:=df l p i) h1 fun u=>by
  rw[h2 u];constructor
  ·rintro⟨x,hx,rfl⟩;obtain⟨g1,g2⟩:=oU hx;exact⟨_,g2.lt i (by omega),BK h g2 i hi,rfl⟩
  ·rintro⟨y,hy,hu,rfl⟩;obtain⟨r,g1,g2⟩:=BL h i hi y hy hu;refine⟨_,BY g1,?_⟩;rw[List.getD_eq_getElem?_getD,List.getElem?_map,List.getElem?_range (by omega)];simp[g2]
 rw[this]
end
end Go.Sx.Sp
namespace Go.Sx.Sp
open Go Go.Sx Go.Proofs
attribute [local irreducible] aO famL
section
variable {l:List Table}{p:Pth}
end
end Go.Sx.Sp
namespace Go.Sx.Sp
open Go Go.Sx Go.Proofs
attribute [local irreducible] aO famL
theorem B2{l:List Table}{p:Pth}{i r:Nat}(hi:i≤p.steps.length)(hr:r<ab (tabN l p i))(j:Nat) :
  cntR ((bg (aV l p) (aH l p p.steps.length i)).take j) (tabN l p i) r=((bY p p.steps.length i).take j).foldl (fun x k=>x*fitS l p k (ay (tabN l p i) (frN l p k) r)) 1:=by
 unfold cntR bg;rw[cu,←List.map_take,List.foldl_map];refine mE _ _ _ _ fun k hk x=>?_;obtain⟨q,g1,g2,rfl⟩:=cI.1 (List.mem_of_mem_take hk);have hg:=kV l p (i:=q+1) (by omega);rw[List.getD_eq_getElem?_getD,hg];simp only[Option.getD_some];unfold mulK fitS Nod.tal;simp only;show(if(ay (tabN l p i) (frN l p (q+1)) r).null=true then 0 else x*a8 (jo l p (q+1)) (ay (tabN l p i) (frN l p (q+1)) r).text)=_;generalize ay (tabN l p i) (frN l p (q+1)) r=c;cases hn:c.null with
 |true =>
  have h0:∀y,fitC c (ay (tabN l p (q+1)) (ownN l p (q+1)) y)=false:=fun y=>by unfold fitC;rw[hn];rfl
  simp only[h0];have:=iP (ab (tabN l p (q+1))) 0;rw[Int.mul_zero] at this;simp[this]
 |false =>
  rw[if_neg (by decide)];congr 1;unfold jo;rw[if_neg (by omega),lE];refine dR fun y hy=>?_;have hy':y<ab (aH l p p.steps.length (q+1)).t:=hy;unfold fitC cntI aK;rw[hn,List.getD_eq_getElem?_getD,List.getElem?_map,List.getElem?_range hy'];simp only[Option.map_some,Option.getD_some,Bool.not_false,Bool.true_and];have e:decide ((ay (aH l p p.steps.length (q+1)).t (aH l p p.steps.length (q+1)).own y).text=c.text)=decide (c.text=(ay (tabN l p (q+1)) (ownN l p (q+1)) y).text):=decide_eq_decide.2 eq_comm;rw[e];rfl
theorem B3{l:List Table}{p:Pth}(h:aD l p=0){i:Nat}(hi:i≤p.steps.length){r:Nat}(hr:r<ab (tabN l p i))(j:Nat)(hj:j≤(bY p p.steps.length i).length) :
  0≤((bY p p.steps.length i).take j).foldl (fun x k=>x*fitS l p k (ay (tabN l p i) (frN l p k) r)) 1∧((bY p p.steps.length i).take j).foldl (fun x k=>x*fitS l p k (ay (tabN l p i) (frN l p k) r)) 1≤1125899906842624:=by
 have hlen:=bW l p p.steps.length (Nat.le_refl _);obtain⟨k,hk⟩:∃k,k+i=p.steps.length:=⟨p.steps.length-i,by omega⟩
 have hnx:(runD (aJ l p p.steps.length) (p.steps.length+1) k)[i]?=some (aH l p p.steps.length i):=by
  obtain⟨d,h1,_,h3⟩:=fo hlen k (by omega) i _ (iq l p (Nat.le_refl _) hi);rw[h1,h3 (by omega)]
 have hst:∀q,i≤q→(aV l p)[q]?=(runD (aJ l p p.steps.length) (p.steps.length+1) (k+1))[q]?:=fun q hq=>by
  unfold aV;have:=dQ (aJ l p p.steps.length) (p.steps.length+1) q (k+1) i (by omega) (by omega);rw[show k+1+i=p.steps.length+1 by omega] at this;exact this
 have hst2:∀q,i<q→(aV l p)[q]?=(runD (aJ l p p.steps.length) (p.steps.length+1) k)[q]?:=fun q hq=>by
  rw[hst q (by omega)];exact dQ (aJ l p p.steps.length) (p.steps.length+1) q k 1 (by omega) (by omega)
 have hko:bg (runD (aJ l p p.steps.length) (p.steps.length+1) k) (aH l p p.steps.length i)=bg (aV l p) (aH l p p.steps.length i):=by
  refine j7 fun q hq=>?_;rw[cu] at hq;obtain⟨q',g1,g2,rfl⟩:=cI.1 hq;have:=bz p (i:=q') (by omega);exact(hst2 _ (by omega)).symm
 have hc:=nr h k (by omega);rw[show p.steps.length+1-1-k=i by omega] at hc;have hb:=hc.bnd;obtain⟨g1,g2⟩:=List.getElem?_eq_some_iff.1 hnx;rw[g2] at hb;have:=hb r hr j (by rw[cu];exact hj);rw[hko] at this;rw[←B2 hi hr];exact this
theorem pJ(p:Pth)(k:Nat){j:Nat}:∀m,j≤m→bY p j k <+: bY p m k
 | 0,h=>by
  obtain rfl:j=0:=by omega
  exact List.prefix_refl _
 |m+1,h=>by
  by_cases e:j=m+1
  ·subst e;exact List.prefix_refl _
  ·refine(pJ p k m (by omega)).trans ?_;rw[ip];split
   ·exact List.prefix_append _ _
   ·exact List.prefix_refl _
section
variable (l:List Table) (p:Pth)
def dnP(i j r:Nat):Int:=(bY p j i).foldl (fun x k=>x*fitS l p k (ay (tabN l p i) (frN l p k) r)) 1
end
section
variable {l:List Table}{p:Pth}
theorem E0(i j r:Nat):dnP l p i (j+1) r=if parI p j=i then dnP l p i j r*fitS l p (j+1) (ay (tabN l p i) (frN l p (j+1)) r) else dnP l p i j r:=by
 unfold dnP;rw[ip];split
 ·rw[List.foldl_append];rfl
 ·rfl
theorem FD{i r:Nat}(hi:i≤p.steps.length)(hr:r<ab (tabN l p i)):dnP l p i p.steps.length r=cntI l p i r:=(vJ hi hr).symm
theorem xA(h:aD l p=0){i j r:Nat}(hi:i≤p.steps.length)(hj:j≤p.steps.length)(hr:r<ab (tabN l p i)):0≤dnP l p i j r∧dnP l p i j r≤1125899906842624:=by
 have hp:=pJ p i _ hj;have:=B3 h hi hr (bY p j i).length hp.length_le;rw[←List.prefix_iff_eq_take.1 hp] at this;exact this
end
end Go.Sx.Sp
namespace Go.Sx.Sp
open Go Go.Sx Go.Proofs
attribute [local irreducible] aO famL
theorem iy{l:List Table}{p:Pth}(h:aD l p=0){n:Nat}(hnp:n<p.steps.length):∃(s:Stp) (c1 c2:Nat) (colA colB:Column),
  (ae p.steps)[n]?=some s.row∧s.fc=c1∧s.tc=c2∧Spec Tryz.prog 81 [.agg p.row,.int .i64 n,.int .i64 s.ft] [] (.int .i64 (parI p n:Nat)) []∧parI p n≤n ∧
  (aa (aG l p))[parI p n]?=some (tabN l p (parI p n)).row∧(aa (aG l p))[n+1]?=some (tabN l p (n+1)).row ∧
  (ai (tabN l p (parI p n)).cols)[c1]?=some colA.row∧(ai (tabN l p (n+1)).cols)[c2]?=some colB.row ∧
  colA.cells.length=ab (tabN l p (parI p n))∧colB.cells.length=ab (tabN l p (n+1)) ∧
  (∀y (hy:y<colA.cells.length),colA.cells[y]=ay (tabN l p (parI p n)) (frN l p (n+1)) y)∧(∀y (hy:y<colB.cells.length),colB.cells[y]=ay (tabN l p (n+1)) (ownN l p (n+1)) y) ∧
  ab (tabN l p (parI p n))≤4096∧ab (tabN l p (n+1))≤4096:=by
 have hv2:=aI h;have hsf:=cN hv2.2.2 hnp;have hpar:=bz p (i:=n) (by omega);have hsg:=bf hnp;have hst:br p n=p.steps[n]:=by simp[br,hnp]
 have hfc:=hsf.fc;have htc:=hsf.tc;have hold:=hsf.old;rw[hst] at hfc htc hold;have h4:=hv2.2.1;have spP:=eE p n p.steps[n].ft (by omega) (by omega);have hpz:cS p n p.steps[n].ft=(parI p n:Int):=by
  unfold cS parI d8;rw[hst];cases hx:ixI p.steps[n].ft (befT p n) with
  |none=>exact absurd hold (cM.1 hx)
  |some i=>rfl
 rw[hpz] at spP;have hg1:(aa (aG l p))[parI p n]?=some (tabN l p (parI p n)).row:=by
  have:=cJ l p (i:=parI p n) (by omega);unfold aa;rw[List.getElem?_map,this];rfl
 have hg2:(aa (aG l p))[n+1]?=some (tabN l p (n+1)).row:=by
  have:=cJ l p (i:=n+1) (by omega);unfold aa;rw[List.getElem?_map,this];rfl
 have ht1:tabN l p (parI p n)=aT l p.steps[n].ft:=by
  have:=qw (l:=l) hnp (show(br p n).ft∈befT p n by rw[hst];exact hold) p.steps.length;rw[hst] at this;exact this
 have ht2:tabN l p (n+1)=aT l p.steps[n].tt:=by
  show aT l (br p n).tt=_;rw[hst]
 have hf1:frN l p (n+1)=p.steps[n].fc.toNat:=by
  show(br p n).fc.toNat=_;rw[hst]
 have hf2:ownN l p (n+1)=p.steps[n].tc.toNat:=by
  show(br p n).tc.toNat=_;rw[hst]
 have hvt1:=db hv2.1 p.steps[n].ft;have hvt2:=db hv2.1 p.steps[n].tt;rw[←ht1] at hvt1;rw[←ht2] at hvt2;rw[←ht1] at hfc;rw[←ht2] at htc;obtain⟨c1,hc1⟩:∃c1:Nat,p.steps[n].fc=c1:=⟨_,(Int.toNat_of_nonneg hfc.1).symm⟩
 obtain⟨c2,hc2⟩:∃c2:Nat,p.steps[n].tc=c2:=⟨_,(Int.toNat_of_nonneg htc.1).symm⟩
 rw[hc1,Int.toNat_natCast] at hf1;rw[hc2,Int.toNat_natCast] at hf2;have hc1l:c1<(tabN l p (parI p n)).cols.length:=by omega
 have hc2l:c2<(tabN l p (n+1)).cols.length:=by omega
 have l1:=hvt1.2 _ (List.getElem_mem hc1l);have l2:=hvt2.2 _ (List.getElem_mem hc2l);refine⟨p.steps[n],c1,c2,_,_,hsg,hc1,hc2,spP,hpar,hg1,hg2,aW hc1l,aW hc2l,l1,l2,fun y hy=>?_,fun y hy=>?_,hvt1.1,hvt2.1⟩
 ·rw[hf1];unfold ay;simp[hc1l,hy]
 ·rw[hf2];unfold ay;simp[hc2l,hy]
def mixR(n:Nat)(F G:Nat→Int)(r:Nat):List (List V):=(List.range n).map fun y=>[.int .i64 (if y<r then F y else G y)]
theorem nA(n:Nat)(F G:Nat→Int)(r:Nat):(mixR n F G r).length=n:=by simp[mixR]
theorem xB{n:Nat}{F G:Nat→Int}{r:Nat}(h:r<n):(mixR n F G r)[r]?=some [.int .i64 (G r)]:=by simp[mixR,h]
theorem xC{n:Nat}{F G:Nat→Int}{r:Nat}(h:r<n):(mixR n F G r).set r [.int .i64 (F r)]=mixR n F G (r+1):=by
 apply List.ext_getElem?;intro y;by_cases e:r=y
 ·subst e;rw[List.getElem?_set_self (by rw[nA];exact h)];simp[mixR,h]
 ·rw[List.getElem?_set_ne e];unfold mixR;rw[List.getElem?_map,List.getElem?_map];by_cases hy:y<n
  ·rw[List.getElem?_range hy];simp only[Option.map_some];by_cases h1:y<r
   ·rw[if_pos h1,if_pos (by omega)]
   ·rw[if_neg h1,if_neg (by omega)]
  ·rw[List.getElem?_eq_none (by simp;omega)];rfl
theorem xD(n:Nat)(F G G':Nat→Int):mixR n F G n=mixR n G' F 0:=by
 unfold mixR;refine List.map_congr_left fun y hy=>?_;have:=List.mem_range.1 hy;simp[this]
theorem rR{n:Nat}{F G F' G':Nat→Int}(h:∀y,y<n→G y=G' y):mixR n F G 0=mixR n F' G' 0:=by
 unfold mixR;refine List.map_congr_left fun y hy=>?_;simp[h y (List.mem_range.1 hy)]
theorem B4(n:Nat)(F:Nat→Int):List.replicate n [V.int .i64 0]=mixR n F (fun _=>0) 0:=by
 unfold mixR;apply List.ext_getElem?;intro y;simp[List.getElem?_replicate];by_cases h:y<n<;>simp[h]
theorem B6{l:List Table}{p:Pth}{i:Nat}(hi:i≤p.steps.length)(F:Nat→Int):mixR (ab (tabN l p i)) F (dnP l p i p.steps.length) 0=aq .i64 (aK l p i):=by
 unfold mixR aq;apply List.ext_getElem?;intro y;have hcl:(aK l p i).length=ab (tabN l p i):=by simp[aK,tabN]
 rw[List.getElem?_map,List.getElem?_map];by_cases hy:y<ab (tabN l p i)
 ·rw[List.getElem?_range hy];simp only[Option.map_some,Nat.not_lt_zero,if_false];rw[FD hi hy];unfold cntI;rw[List.getD_eq_getElem?_getD,List.getElem?_eq_getElem (by rw[hcl];exact hy)];rfl
 ·rw[List.getElem?_eq_none (by simp;omega),List.getElem?_eq_none (by omega)];rfl
theorem lI{l:List Table}{p:Pth}(h:aD l p=0):∀(k i:Nat),i≤p.steps.length→p.steps.length-i<k →
  Spec Tryz.prog 151 [.sl (aa (aG l p)) false,.agg p.row,.int .i64 i] [] (.sl (aq .i64 (aK l p i)) false) []
 | 0,i,hi,hk=>absurd hk (Nat.not_lt_zero _)
 |k+1,i,hi,hk=>by
  have ih:=lI h k;have hv2:=aI h;have h4:=hv2.2.1;have hsl:=aC p.steps;have htl:=aP (aG l p);have hml:=cB l p;have hgi:(aa (aG l p))[i]?=some (tabN l p i).row:=by
   have:=cJ l p (i:=i) hi;unfold aa;rw[List.getElem?_map,this];rfl
  have sp0:=dP (tabN l p i);have hrow:ab (tabN l p i)≤4096:=by
   cases i with
   |zero=>exact(db hv2.1 p.start).1
   |succ q =>
    obtain⟨_,_,_,_,_,_,_,_,_,_,_,_,_,_,_,_,_,_,hr⟩:=iy h (show q<p.steps.length by omega);exact hr.2
  refine gEn env Tryz.func151 fun Γ hN hK hML=>?_;refine g ?_;refine And.intro ⟨by omega,by omega,(by show((ab (tabN l p i):Nat):Int)*8≤_;omega),by omega⟩ ?_;rw[Int.toNat_natCast];(conv=>whnf);refine gGo ?_;refine And.intro (by rw[List.length_replicate]) ?_;(conv=>whnf);refine gGo ?_;intros;have hmc:=B6 (l:=l) hi (fun _=>0);have hcn:ab (tabN l p i)=(aq .i64 (aK l p i)).length:=by rw[bu];simp[aK,tabN]
  generalize hNr:ab (tabN l p i)=N at *;refine W.leG (mp:=[(4,4),(22,22)]) (bo:=[]) (st':=⟨[(0,.sl (aa (aG l p)) false),(2,.int .i64 i),(4,.bp 4 0),(7,.osl 22 0 0 N N),(24,.int .i64 N),(25,.int .i64 0)],[(4,[.rows 2 [p.row] none]),(22,[.rows 1 (mixR N (fun _=>1) (fun _=>0) 0) (some [])])],[4,22]⟩)
   (LeG.mq (.ci 4 (.cons 22 rfl rfl (.refl _) (by rw[←B4];rfl) .nil))) ?_
  refine W.loopG (fun m st=>∃y:Nat,y≤N∧m=N-y∧st=⟨[(0,.sl (aa (aG l p)) false),(2,.int .i64 i),(4,.bp 4 0),(7,.osl 22 0 0 N N),(24,.int .i64 N),(25,.int .i64 y)],[(4,[.rows 2 [p.row] none]),(22,[.rows 1 (mixR N (fun _=>1) (fun _=>0) y) (some [])])],[4,22]⟩)
   N _ ⟨0,by omega,by omega,rfl⟩ gX ?_
  rintro m st ⟨y,hy,rfl,rfl⟩;have hml0:=nA N (fun _=>1) (fun _=>0) y;refine gT (fun hb=>?_) fun hb=>?_
  ·have hyl:y<N:=by omega
   have hg:=xB (F:=fun _=>1) (G:=fun _=>0) hyl;have hs:=xC (F:=fun _=>1) (G:=fun _=>0) hyl;refine g ?_;refine⟨_,_,?_,⟨y+1,by omega,rfl,rfl⟩,[(4,4),(22,22)],[],[],LeG.mq (.ci 4 (.cons 22 rfl rfl (.refl _) ?_ .nil))⟩
   ·omega
   ·rw[←hs];simp only[Nat.zero_add,Int.toNat_natCast];rfl
  ·have hye:y=N:=by omega
   rw[hye];refine gGo ?_;intros;refine W.leG (mp:=[(4,4),(22,22)]) (bo:=[]) (st':=⟨[(0,.sl (aa (aG l p)) false),(2,.int .i64 i),(4,.bp 4 0),(7,.osl 22 0 0 N N),(33,.sl (ae p.steps) false),(34,.int .i64 (ae p.steps).length),(35,.int .i64 0)],[(4,[.rows 2 [p.row] none]),(22,[.rows 1 (mixR N (fun _=>0) (dnP l p i 0) 0) (some [])])],[4,22]⟩)
    (LeG.mq (.ci 4 (.cons 22 rfl rfl (.refl _) (by rw[xD N (fun _=>1) (fun _=>0) (fun _=>0)];rfl) .nil))) ?_
   refine W.loopG (fun m st=>∃j:Nat,j≤p.steps.length∧m=p.steps.length-j∧st=⟨[(0,.sl (aa (aG l p)) false),(2,.int .i64 i),(4,.bp 4 0),(7,.osl 22 0 0 N N),(33,.sl (ae p.steps) false),(34,.int .i64 (ae p.steps).length),(35,.int .i64 j)],[(4,[.rows 2 [p.row] none]),(22,[.rows 1 (mixR N (fun _=>0) (dnP l p i j) 0) (some [])])],[4,22]⟩)
    p.steps.length _ ⟨0,by omega,by omega,rfl⟩ gX ?_
   rintro m st ⟨j,hj,rfl,rfl⟩;have hml1:=nA N (fun _=>0) (dnP l p i j) 0;refine gT (fun hb=>?_) fun hb=>?_
   ·have hjl:j<p.steps.length:=by omega
    obtain⟨s,c1,c2,colA,colB,hsg,hc1,hc2,spP,hpar,hg1,hg2,k1,k2,l1,l2,f1,f2,b1,b2⟩:=iy h hjl;have hsn:=fun r=>E0 (l:=l) (p:=p) i j r;refine g ?_;by_cases hpi:parI p j=i
    ·rw[hpi] at hpar hg1 k1 l1 f1 b1;rw[hNr] at l1 b1;simp only[if_pos hpi] at hsn;have spD:=ih (j+1) (by omega) (by omega);rw[show((j+1:Nat):Int)=(j:Int)+1 from rfl] at spD;have hbl:=fu h (show j+1≤p.steps.length by omega);refine gL (by omega) ?_;(conv=>whnf);refine gGo ?_;(refine gPC (spD) ?_;conv=>whnf);refine gGo ?_;refine al (r:=(tabN l p (j+1)).row) (by rw[show((j:Int)+1).toNat=j+1 by omega];exact hg2) ?_;(conv=>whnf);refine gGo ?_;refine al (r:=colB.row) (by rw[hc2,Int.toNat_natCast];exact k2) ?_;(conv=>whnf);refine gGo ?_;intros;have hbl2:∀y,y<ab (tabN l p (j+1))→0≤cntI l p (j+1) y∧cntI l p (j+1) y≤1125899906842624:=fun y hy=>by
      have hcl:(aK l p (j+1)).length=ab (tabN l p (j+1)):=by simp[aK,tabN]
      unfold cntI;rw[List.getD_eq_getElem?_getD,List.getElem?_eq_getElem (by omega)];exact hbl _ (List.getElem_mem _)
     have htb:=jZ (t:=tabN l p (j+1)) (own:=ownN l p (j+1)) hbl2 (by decide);have hcg:∀y,y<ab (tabN l p (j+1))→(aq .i64 (aK l p (j+1)))[y]?=some [.int .i64 (cntI l p (j+1) y)]:=fun y hy=>by
      have hcl:(aK l p (j+1)).length=ab (tabN l p (j+1)):=by simp[aK,tabN]
      rw[dN (by omega)];unfold cntI;rw[List.getD_eq_getElem?_getD,List.getElem?_eq_getElem (by omega)];rfl
     have hil:=bu .i64 (aK l p (j+1));have hcl:(aK l p (j+1)).length=ab (tabN l p (j+1)):=by simp[aK,tabN]
     have hcR:=aF colB.cells;obtain⟨G,hG⟩:∃G:Nat→List (Str×Int),G=talR (tabN l p (j+1)) (ownN l p (j+1)) (cntI l p (j+1)):=⟨_,rfl⟩
     have hGs:∀y,G (y+1)=if(ay (tabN l p (j+1)) (ownN l p (j+1)) y).null=true then G y else addT (G y) (ay (tabN l p (j+1)) (ownN l p (j+1)) y).text (cntI l p (j+1) y):=fun y=>by rw[hG];rfl
     have hG0:G 0=[]:=by rw[hG];rfl
     rw[←hG] at htb;refine W.leG (mp:=[(4,4),(22,22),(10,10),(53,53)]) (bo:=[]) (st':=⟨[(0,.sl (aa (aG l p)) false),(2,.int .i64 i),(4,.bp 4 0),(7,.osl 22 0 0 N N),(9,.int .i64 j),(10,.bp 10 0),(11,.sl (aq .i64 (aK l p (j+1))) false),(12,.omap 53 0),(33,.sl (ae p.steps) false),(34,.int .i64 (ae p.steps).length),(35,.int .i64 j),(65,.sl (aj colB.cells) false),(66,.int .i64 (aj colB.cells).length),(67,.int .i64 0)],[(4,[.rows 2 [p.row] none]),(22,[.rows 1 (mixR N (fun _=>0) (dnP l p i j) 0) (some [])]),(10,[.rows 4 [s.row] none]),(53,[.map (sumE (G 0)) (List.length (G 0)) (some [])])],[4,22,10,53]⟩)
      (LeG.mq (.ci 4 (.ci 22 (.ci 10 (.cons 53 rfl rfl (.refl _) (by rw[hG0];rfl) .nil))))) ?_
     refine W.loopG (fun m st=>∃y:Nat,y≤ab (tabN l p (j+1))∧m=ab (tabN l p (j+1))-y∧st=⟨[(0,.sl (aa (aG l p)) false),(2,.int .i64 i),(4,.bp 4 0),(7,.osl 22 0 0 N N),(9,.int .i64 j),(10,.bp 10 0),(11,.sl (aq .i64 (aK l p (j+1))) false),(12,.omap 53 0),(33,.sl (ae p.steps) false),(34,.int .i64 (ae p.steps).length),(35,.int .i64 j),(65,.sl (aj colB.cells) false),(66,.int .i64 (aj colB.cells).length),(67,.int .i64 y)],[(4,[.rows 2 [p.row] none]),(22,[.rows 1 (mixR N (fun _=>0) (dnP l p i j) 0) (some [])]),(10,[.rows 4 [s.row] none]),(53,[.map (sumE (G y)) (List.length (G y)) (some [])])],[4,22,10,53]⟩)
      (ab (tabN l p (j+1))) _ ⟨0,by omega,by omega,rfl⟩ gX ?_
     rintro m st ⟨y,hy2,rfl,rfl⟩;refine gT (fun hb=>?_) fun hb=>?_
     ·have hyl:y<ab (tabN l p (j+1)):=by omega
      have hcy:=aY (l:=colB.cells) (i:=y) (by omega);rw[f2 y (by omega)] at hcy;have hgy:=hcg y hyl;have hsy:=hGs y;have hty:=htb y hy2;have hby:=hbl2 y hyl;generalize ay (tabN l p (j+1)) (ownN l p (j+1)) y=c at *;generalize cntI l p (j+1) y=x at *;refine g ?_;cases hnull:c.null with
      |true =>
       (conv=>whnf);refine gGo ?_;refine⟨_,_,?_,⟨y+1,by omega,rfl,rfl⟩,[(4,4),(22,22),(10,10),(53,53)],[],[],LeG.mq (.ci 4 (.ci 22 (.ci 10 (.cons 53 rfl rfl (.refl _) ?_ .nil))))⟩
       ·omega
       ·rw[hsy,if_pos hnull];rfl
      |false =>
       rw[if_neg (by rw[hnull];decide)] at hsy;obtain⟨r0,hr1,hr2⟩:=gr (G y) c.text;obtain⟨r1,hq1,hq2⟩:=rt (G y) c.text x;have hlb:=hty c.text;(conv=>whnf);refine gGo ?_;refine bl (by kernel_rfl) ?_;(conv=>whnf);refine⟨r0,hr1,?_⟩;rw[hr2];(conv=>whnf);refine g ?_;refine⟨r1,hq1,?_⟩;cases r1 with
       |none =>
        (conv=>whnf);refine gGo ?_;refine⟨_,_,?_,⟨y+1,by omega,rfl,rfl⟩,[(4,4),(22,22),(10,10),(53,53)],[],[],LeG.mq (.ci 4 (.ci 22 (.ci 10 (.cons 53 rfl rfl (.refl _) ?_ .nil))))⟩
        ·omega
        ·rw[hsy,←hq2.1,hq2.2];rfl
       |some pp =>
        obtain⟨jj,bb,vv⟩:=pp;(conv=>whnf);refine gGo ?_;refine⟨_,_,?_,⟨y+1,by omega,rfl,rfl⟩,[(4,4),(22,22),(10,10),(53,53)],[],[],LeG.mq (.ci 4 (.ci 22 (.ci 10 (.cons 53 rfl rfl (.refl _) ?_ .nil))))⟩
        ·omega
        ·rw[hsy,←hq2.1,hq2.2];rfl
     ·have hye2:y=ab (tabN l p (j+1)):=by omega
      rw[hye2];have hlk:∀c:Cell,c.null=false→a8 (G (ab (tabN l p (j+1)))) c.text=fitS l p (j+1) c:=fun c hc=>by
       rw[hG,lE];unfold fitS;refine dR fun y hy=>?_;unfold fitC;rw[hc,Bool.not_false,Bool.true_and];have e:decide ((ay (tabN l p (j+1)) (ownN l p (j+1)) y).text=c.text)=decide (c.text=(ay (tabN l p (j+1)) (ownN l p (j+1)) y).text):=decide_eq_decide.2 eq_comm;rw[e]
      have hfn:∀c:Cell,c.null=true→fitS l p (j+1) c=0:=fun c hc=>by
       unfold fitS fitC;rw[hc];have:=iP (ab (tabN l p (j+1))) 0;rw[Int.mul_zero] at this;simpa using this
      have hcA:=aF colA.cells;refine gGo ?_;intros;generalize G (ab (tabN l p (j+1)))=GE at *;refine W.leG (mp:=[(4,4),(22,22),(10,10),(53,53)]) (bo:=[]) (st':=⟨[(0,.sl (aa (aG l p)) false),(2,.int .i64 i),(4,.bp 4 0),(7,.osl 22 0 0 N N),(9,.int .i64 j),(10,.bp 10 0),(11,.sl (aq .i64 (aK l p (j+1))) false),(12,.omap 53 0),(33,.sl (ae p.steps) false),(34,.int .i64 (ae p.steps).length),(35,.int .i64 j),(86,.int .i64 N),(87,.int .i64 0)],[(4,[.rows 2 [p.row] none]),(22,[.rows 1 (mixR N (dnP l p i (j+1)) (dnP l p i j) 0) (some [])]),(10,[.rows 4 [s.row] none]),(53,[.map (sumE (GE)) (List.length (GE)) (some [])])],[4,22,10,53]⟩)
       (LeG.mq (.ci 4 (.cons 22 rfl rfl (.refl _) (by rw[rR (F':=fun _=>0) (fun y _=>rfl)];rfl) (.ci 10 (.ci 53 .nil))))) ?_
      refine W.loopG (fun m st=>∃r:Nat,r≤N∧m=N-r∧st=⟨[(0,.sl (aa (aG l p)) false),(2,.int .i64 i),(4,.bp 4 0),(7,.osl 22 0 0 N N),(9,.int .i64 j),(10,.bp 10 0),(11,.sl (aq .i64 (aK l p (j+1))) false),(12,.omap 53 0),(33,.sl (ae p.steps) false),(34,.int .i64 (ae p.steps).length),(35,.int .i64 j),(86,.int .i64 N),(87,.int .i64 r)],[(4,[.rows 2 [p.row] none]),(22,[.rows 1 (mixR N (dnP l p i (j+1)) (dnP l p i j) r) (some [])]),(10,[.rows 4 [s.row] none]),(53,[.map (sumE (GE)) (List.length (GE)) (some [])])],[4,22,10,53]⟩)
       N _ ⟨0,by omega,by omega,rfl⟩ gX ?_
      rintro m st ⟨r,hr,rfl,rfl⟩;have hml2:=nA N (dnP l p i (j+1)) (dnP l p i j) r;refine gT (fun hb=>?_) fun hb=>?_
      ·have hrl:r<N:=by omega
       have hgr:=xB (F:=dnP l p i (j+1)) (G:=dnP l p i j) hrl;have hsr:=xC (F:=dnP l p i (j+1)) (G:=dnP l p i j) hrl;have hcr:=aY (l:=colA.cells) (i:=r) (by omega);rw[f1 r (by omega)] at hcr;have hsn1:=hsn r;have hd1:=xA h hi (show j≤p.steps.length by omega) (show r<ab (tabN l p i) by omega);have hd2:=xA h hi (show j+1≤p.steps.length by omega) (show r<ab (tabN l p i) by omega);generalize ay (tabN l p i) (frN l p (j+1)) r=c at *;refine g ?_;refine al (r:=colA.row) (by rw[hc1,Int.toNat_natCast];exact k1) ?_;(conv=>whnf);refine g ?_;cases hnull:c.null with
       |true =>
        rw[hfn c hnull,Int.mul_zero] at hsn1;rw[hsn1] at hsr;(conv=>whnf);refine g ?_;refine⟨_,_,?_,⟨r+1,by omega,rfl,rfl⟩,[(4,4),(22,22),(10,10),(53,53)],[],[],LeG.mq (.ci 4 (.cons 22 rfl rfl (.refl _) ?_ (.ci 10 (.ci 53 .nil))))⟩
        ·omega
        ·rw[←hsr];simp only[Nat.zero_add,Int.toNat_natCast];rfl
       |false =>
        obtain⟨r0,hr1,hr2⟩:=gr GE c.text;have hlk1:=hlk c hnull;rw[←hlk1] at hsn1;rw[hsn1] at hsr hd2;generalize a8 GE c.text=y0 at *;generalize dnP l p i j r=d0 at *;(conv=>whnf);refine g ?_;refine bl (by kernel_rfl) ?_;(conv=>whnf);refine⟨r0,hr1,?_⟩;rw[hr2];(conv=>whnf);refine g ?_;refine⟨_,_,?_,⟨r+1,by omega,rfl,rfl⟩,[(4,4),(22,22),(10,10),(53,53)],[],[],LeG.mq (.ci 4 (.cons 22 rfl rfl (.refl _) ?_ (.ci 10 (.ci 53 .nil))))⟩
        ·omega
        ·rw[←hsr];simp only[Nat.zero_add,Int.toNat_natCast];rfl
      ·have hre:r=N:=by omega
       rw[hre];refine gGo ?_;refine⟨_,_,?_,⟨j+1,by omega,rfl,rfl⟩,[(4,4),(22,22)],[],[],LeG.mq (.ci 4 (.cons 22 rfl rfl (.refl _) ?_ .nil))⟩
       ·omega
       ·rw[xD N _ _ (fun _=>0)];rfl
    ·simp only[if_neg hpi] at hsn;refine gK (by omega) ?_;(conv=>whnf);refine gGo ?_;refine⟨_,_,?_,⟨j+1,by omega,rfl,rfl⟩,[(4,4),(22,22)],[],[],LeG.mq (.ci 4 (.cons 22 rfl rfl (.refl _) ?_ .nil))⟩
     ·omega
     ·rw[rR (fun y hy=>(hsn y).symm)];rfl
   ·have hje:j=p.steps.length:=by omega
    rw[hje,hmc];refine gGo ?_;refine W.leG (mp:=[]) (bo:=[22]) (st':=⟨[(6,.sl (aq .i64 (aK l p i)) false)],[],[]⟩)
     (LeG.mk' rfl rfl rfl ⟨⟨_,Lent.whole rfl rfl hcn rfl (.inl rfl),rfl⟩,trivial⟩ .nil rfl rfl (by rw[hK];rfl)) ?_
    (refine gM ?_;conv=>whnf);exact ret0 rfl rfl rfl
theorem xE(l:List Table)(p:Pth):Spec Tryz.prog 105 [.sl (aa l) false,.agg p.row] [] (.tup [.sl (aq .i64 (rC l p).1) false,.int .i64 (rC l p).2]) []:=by
 have sp1:=ke l p;unfold rC;by_cases h:aD l p=0
 ·rw[if_pos h];have h4:=(aI h).2.1;have sp2:=eo l p (by omega);have sp3:=lI h (p.steps.length+1) 0 (by omega) (by omega);rw[h] at sp1;refine gEn env Tryz.func105 fun Γ hN hK hML=>?_;refine g ?_;(refine gM ?_;conv=>whnf);exact ret0 rfl rfl rfl
 ·rw[if_neg h];have hne:=h;generalize aD l p=e at *;refine gEn env Tryz.func105 fun Γ hN hK hML=>?_;refine g ?_;(refine gM ?_;conv=>whnf);exact retH rfl (.norm _) rfl rfl rfl trivial
structure KT (T:List (Str×Int)):Prop where
 nd:(aL T).Nodup
 pos:∀p∈T,0<p.2
theorem KT.add{T:List (Str×Int)}(h:KT T)(s:Str):KT (addT T s 1):=by
 unfold addT;cases hx:ixS s (aL T) with
 |none =>
  have hns:=jn.1 hx;have hl:a8 T s=0:=by unfold a8;rw[hx]
  refine⟨?_,fun p hp=>?_⟩
  ·simp only[aL,List.map_append,List.map_cons,List.map_nil];rw[List.nodup_append];refine⟨h.nd,by simp,fun a ha b hb=>?_⟩;rw[List.mem_singleton.1 hb];intro e;exact hns (e ▸ ha)
  ·rcases List.mem_append.1 hp with hp|hp
   ·exact h.pos p hp
   ·rw[List.mem_singleton.1 hp];show 0<a8 T s+1;omega
 |some j =>
  have hj:=i9 hx;have hl:a8 T s=(T.getD j ([],0)).2:=by unfold a8;rw[hx]
  have hp0:=h.pos T[j] (List.getElem_mem hj);have hg:T.getD j ([],0)=T[j]:=by rw[List.getD_eq_getElem?_getD,List.getElem?_eq_getElem hj];rfl
  refine⟨?_,fun p hp=>?_⟩
  ·show(aL (T.set j (s,a8 T s+1))).Nodup;rw[AE hx];exact h.nd
  ·rcases List.mem_or_eq_of_mem_set hp with hp|hp
   ·exact h.pos p hp
   ·rw[hp];show 0<a8 T s+1;rw[hl,hg];omega
theorem KT.cntC(cs:List Cell):KT (cntC cs):=by
 have:∀(cs:List Cell) (T:List (Str×Int)),KT T→KT (cs.foldl dj T):=by
  intro cs
  induction cs with
  |nil=>exact fun T h=>h
  |cons c cs ih =>
   intro T h;rw[List.foldl_cons];refine ih _ ?_;unfold dj;split
   ·exact h
   ·exact h.add _
 exact this cs [] ⟨List.nodup_nil,fun p hp=>by cases hp⟩
theorem KT.look{T:List (Str×Int)}(h:KT T){j:Nat}(hj:j<T.length):a8 T T[j].1=T[j].2:=by
 unfold a8;cases hx:ixS T[j].1 (aL T) with
 |none=>exact absurd (List.mem_map.2 ⟨_,List.getElem_mem hj,rfl⟩) (jn.1 hx)
 |some i =>
  have hi:=i9 hx;have hk:=ek hx;have hki:(aL T)[i]'(by simpa[aL] using hi)=(aL T)[j]'(by simpa[aL] using hj):=by
   have:=(List.getElem?_eq_some_iff.1 hk).2;rw[this];simp[aL]
  have hpw:=List.pairwise_iff_getElem.1 h.nd;have hij:i=j:=by
   rcases Nat.lt_trichotomy i j with e|e|e
   ·exact absurd hki (hpw i j (by simpa[aL] using hi) (by simpa[aL] using hj) e)
   ·exact e
   ·exact absurd hki.symm (hpw j i (by simpa[aL] using hj) (by simpa[aL] using hi) e)
  subst hij;show(T.getD i ([],0)).2=_;rw[List.getD_eq_getElem?_getD,List.getElem?_eq_getElem hj];rfl
def cY(bs:List Bool):List (List V):=bs.map fun b=>[.bool b]
def bolB(bs:List Bool):Blk:=.rows 1 (cY bs) (some [])
theorem eM(bs:List Bool):(cY bs).length=bs.length:=by simp[cY]
theorem pK{bs:List Bool}{i:Nat}(h:i<bs.length):(cY bs)[i]?=some [.bool bs[i]]:=by simp[cY,h]
theorem DR{L:List (List Bool)}:∀b∈L.map bolB,b.famB=true:=fun b hb=>by
 obtain⟨x,_,rfl⟩:=List.mem_map.1 hb;rfl
def matL(N:Nat)(R:Nat→Nat)(A:Nat→Nat→Bool):List (List Bool):=(List.range N).map fun q=>(List.range (R q)).map (A q)
theorem k9(N:Nat)(R:Nat→Nat)(A:Nat→Nat→Bool):(matL N R A).length=N:=by simp[matL]
theorem jr{N:Nat}{R:Nat→Nat}{A:Nat→Nat→Bool}{q:Nat}(h:q<N):(matL N R A)[q]?=some ((List.range (R q)).map (A q)):=by simp[matL,h]
theorem B7(N:Nat)(R:Nat→Nat)(A:Nat→Nat→Bool):matL (N+1) R A=matL N R A++[(List.range (R N)).map (A N)]:=by simp[matL,List.range_succ]
theorem zM{N:Nat}{R:Nat→Nat}{A B:Nat→Nat→Bool}(h:∀q,q<N→∀y,y<R q→A q y=B q y):matL N R A=matL N R B:=by
 unfold matL;refine List.map_congr_left fun q hq=>List.map_congr_left fun y hy=>h q (List.mem_range.1 hq) y (List.mem_range.1 hy)
def updA(A:Nat→Nat→Bool)(q y:Nat)(v:Bool):Nat→Nat→Bool:=fun q' y'=>if q'=q∧y'=y then v else A q' y'
theorem DS{N:Nat}{R:Nat→Nat}{A:Nat→Nat→Bool}{q y:Nat}(v:Bool)(hq:q<N)(hy:y<R q) :
  ((matL N R A).map bolB).set q (.rows 1 ((cY ((List.range (R q)).map (A q))).set y [.bool v]) (some []))=(matL N R (updA A q y v)).map bolB:=by
 apply List.ext_getElem?;intro k;rw[List.getElem?_set,List.length_map,k9];by_cases e:q=k
 ·subst e;rw[if_pos rfl,if_pos hq,List.getElem?_map,jr hq];simp only[Option.map_some];congr 1;unfold bolB;congr 1;apply List.ext_getElem?;intro z;rw[List.getElem?_set];by_cases ez:y=z
  ·subst ez;rw[if_pos rfl,if_pos (by simp[cY,hy])];simp[cY,hy,updA]
  ·rw[if_neg ez];unfold cY;rw[List.getElem?_map,List.getElem?_map,List.getElem?_map,List.getElem?_map];by_cases hz:z<R q
   ·rw[List.getElem?_range hz];simp[updA,Ne.symm ez]
   ·rw[List.getElem?_eq_none (by simp;omega)];rfl
 ·rw[if_neg e,List.getElem?_map,List.getElem?_map];by_cases hk:k<N
  ·rw[jr hk,jr hk];simp only[Option.map_some];congr 2;refine List.map_congr_left fun z hz=>?_;unfold updA;rw[if_neg (fun h=>e h.1.symm)]
  ·rw[List.getElem?_eq_none (by rw[k9];omega),List.getElem?_eq_none (by rw[k9];omega)]
def marF(N:Nat)(R:Nat→Nat)(A:Nat→Nat→Bool):List Blk:=bolB []::bolB []::(matL N R A).map bolB
theorem bI(N:Nat)(R:Nat→Nat)(A:Nat→Nat→Bool):∀b∈marF N R A,b.famB=true:=fun b hb=>by
 unfold marF at hb;rcases List.mem_cons.1 hb with rfl|hb
 ·rfl
 rcases List.mem_cons.1 hb with rfl|hb
 ·rfl
 exact DR b hb
theorem DT(N:Nat)(R:Nat→Nat)(A:Nat→Nat→Bool):(marF N R A).length=N+2:=by simp[marF,k9]
theorem nB{N:Nat}{R:Nat→Nat}{A:Nat→Nat→Bool}{q:Nat}(h:q<N):(marF N R A)[q+2]?=some (bolB ((List.range (R q)).map (A q))):=by
 unfold marF;rw[List.getElem?_cons_succ,List.getElem?_cons_succ,List.getElem?_map,jr h];rfl
theorem xF{N:Nat}{R:Nat→Nat}{A:Nat→Nat→Bool}{q y:Nat}(v:Bool)(hq:q<N)(hy:y<R q) :
  (marF N R A).set (q+2) (.rows 1 ((cY ((List.range (R q)).map (A q))).set y [.bool v]) (some []))=marF N R (updA A q y v):=by
 unfold marF;rw[List.set_cons_succ,List.set_cons_succ,DS v hq hy]
theorem B8(N:Nat)(R:Nat→Nat)(A:Nat→Nat→Bool):marF N R A++[bolB ((List.range (R N)).map (A N))]=marF (N+1) R A:=by
 unfold marF;rw[B7];simp
theorem mM{N:Nat}{R:Nat→Nat}{A B:Nat→Nat→Bool}(h:∀q,q<N→∀y,y<R q→A q y=B q y):marF N R A=marF N R B:=by
 unfold marF;rw[zM h]
def outR(N k:Nat)(R:Nat→Nat):List (List V):=(List.range N).map fun q=>if q<k then [.osl 200 (q+2) 0 (R q) (R q)] else [.nils]
theorem fR(N k:Nat)(R:Nat→Nat):(outR N k R).length=N:=by simp[outR]
theorem iz{N k:Nat}{R:Nat→Nat}{q:Nat}(h:q<N):(outR N k R)[q]?=some (if q<k then [.osl 200 (q+2) 0 (R q) (R q)] else [.nils]):=by simp[outR,h]
theorem uA(N:Nat)(R:Nat→Nat):List.replicate N [V.nils]=outR N 0 R:=by
 unfold outR;apply List.ext_getElem?;intro q;rw[List.getElem?_replicate,List.getElem?_map];by_cases h:q<N
 ·rw[if_pos h,List.getElem?_range h];rfl
 ·rw[if_neg h,List.getElem?_eq_none (by simp;omega)];rfl
theorem E1{N k i0:Nat}{R:Nat→Nat}{r0:List V}{ks:Option (List Nat)}(hi:i0=k)(hr:r0=[.osl 31 0 0 (R k) (R k)])(hk:k<N) :
  BGat 31 200 (k+2) (.rows 1 ((outR N k R).set i0 r0) ks) (.rows 1 (outR N (k+1) R) (some [200])):=by
 subst hi;subst hr;refine .rows 1 _ _ _ _ (by rw[List.length_set,fR,fR]) fun j r1 hj=>?_;have hjN:j<N:=by
  have:=(List.getElem?_eq_some_iff.1 hj).1
  rwa [fR] at this
 rw[iz hjN] at hj;cases hj;rw[List.getElem?_set,fR,iz hjN];by_cases e:i0=j
 ·subst e;rw[if_pos rfl,if_pos hk,if_pos (Nat.lt_succ_self _)];refine⟨_,rfl,rfl,fun l hl v hv s hs=>?_⟩;cases hl;rw[List.mem_singleton.1 hv] at hs;simpa[V.sites] using hs
 ·rw[if_neg e];refine⟨_,rfl,?_,fun l hl v hv s hs=>?_⟩
  ·by_cases h1:j<i0
   ·rw[if_pos h1,if_pos (by omega)];simp[gatL,V.gat,h1]
   ·rw[if_neg h1,if_neg (by omega)];rfl
  ·cases hl;split at hv
   ·rw[List.mem_singleton.1 hv] at hs;simpa[V.sites] using hs
   ·rw[List.mem_singleton.1 hv] at hs;cases hs
def cO(N:Nat)(R:Nat→Nat)(A:Nat→Nat→Bool):List (List V):=(matL N R A).map fun b=>[.sl (cY b) false]
theorem gi(N:Nat)(R:Nat→Nat)(A:Nat→Nat→Bool):(cO N R A).length=N:=by simp[cO,k9]
theorem B9{H:Nat→List Blk}{bo:List Nat}{N:Nat}{R:Nat→Nat}{A:Nat→Nat→Bool}{ks:Option (List Nat)}(hF:H 200=marF N R A)(hb:memB 200 bo=true):BLent H bo (.rows 1 (outR N N R) ks) (.rows 1 (cO N R A) (some [])):=by
 refine .rowsF _ _ _ _ (by rw[fR,gi]) fun i r1 hi=>?_;have hlt:=(List.getElem?_eq_some_iff.1 hi).1;rw[gi] at hlt;unfold cO at hi;rw[List.getElem?_map,jr hlt] at hi;cases hi;refine⟨_,iz hlt,by rw[if_pos hlt];rfl,fun j v1 hj=>?_⟩;cases j with
 |succ j=>simp at hj
 |zero =>
  cases hj;rw[if_pos hlt];have hl:=eM ((List.range (R i)).map (A i));rw[List.length_map,List.length_range] at hl;refine⟨_,rfl,?_,rfl,rfl⟩;have:=Lent.oslF (H:=H) (bo:=bo) 200 (i+2) 0 (R i) (R i) 1 (cY ((List.range (R i)).map (A i))) (some []) hb (by rw[hF];exact nB hlt) hl.symm (.inl rfl);rw[List.drop_zero,List.take_of_length_le (by omega)] at this;exact this
def mk0(U:Nat→Nat→Bool)(i y:Nat)(b:Bool):Nat→Nat→Bool:=fun q z=>if q<i∨(q=i∧z<y) then U q z else if q=i∧z=y then b else false
theorem AO(U:Nat→Nat→Bool)(i y:Nat)(b c:Bool):updA (mk0 U i y b) i y c=mk0 U i y c:=by
 funext q z;unfold updA mk0;by_cases h:q=i∧z=y
 ·obtain⟨rfl,rfl⟩:=h;simp
 ·rw[if_neg h,if_neg h,if_neg h]
theorem xG(U:Nat→Nat→Bool)(i y:Nat):mk0 U i y (U i y)=mk0 U i (y+1) false:=by
 funext q z;unfold mk0;by_cases h:q=i∧z=y
 ·obtain⟨rfl,rfl⟩:=h;simp
 ·rw[if_neg h];by_cases h2:q<i∨(q=i∧z<y)
  ·rw[if_pos h2,if_pos (by omega)]
  ·rw[if_neg h2,if_neg (by omega)];simp
theorem DU{U:Nat→Nat→Bool}{i y q z:Nat}{b:Bool}(h:q<i):mk0 U i y b q z=U q z:=by
 unfold mk0;rw[if_pos (.inl h)]
theorem xH(U:Nat→Nat→Bool)(N i:Nat)(R:Nat→Nat):marF N R (mk0 U i (R i) false)=marF N R (mk0 U (i+1) 0 false):=mM fun q hq z hz=>by
 unfold mk0;by_cases h:q<i+1
 ·have:q<i∨(q=i∧z<R i):=by
   by_cases e:q=i
   ·subst e;exact .inr ⟨rfl,hz⟩
   ·exact .inl (by omega)
  rw[if_pos this,if_pos (.inl h)]
 ·have h1:¬(q<i∨(q=i∧z<R i)):=by omega
  have h2:¬(q=i∧z=R i):=by omega
  have h3:¬(q<i+1∨(q=i+1∧z<0)):=by omega
  rw[if_neg h1,if_neg h2,if_neg h3];simp
theorem Ca(U:Nat→Nat→Bool)(N:Nat)(R:Nat→Nat):marF N R (fun _ _=>false)=marF N R (mk0 U 0 0 false):=mM fun q hq z hz=>by
 unfold mk0;simp
theorem DV(U:Nat→Nat→Bool)(N:Nat)(R:Nat→Nat):marF N R (mk0 U N 0 false)=marF N R U:=mM fun q hq z hz=>by
 unfold mk0;rw[if_pos (.inl hq)]
def parB(g:Nat→Bool):Nat→Bool
 | 0=>false
 |x+1=>parB g x ||g x
theorem xI(g:Nat→Bool):∀n,parB g n=true↔∃x,x<n∧g x=true
 | 0=>by simp[parB]
 |n+1=>by
  rw[parB,Bool.or_eq_true,xI g n];constructor
  ·rintro(⟨x,h1,h2⟩|h)
   ·exact⟨x,by omega,h2⟩
   ·exact⟨n,by omega,h⟩
  ·rintro⟨x,h1,h2⟩;by_cases e:x=n
   ·subst e;exact .inr h2
   ·exact .inl ⟨x,by omega,h2⟩
theorem vO{R:Nat→Nat}{A:Nat→Nat→Bool}{q y:Nat}(hy:y<R q):(cY ((List.range (R q)).map (A q)))[y]?=some [.bool (A q y)]:=by
 rw[pK (by simpa using hy)];simp
theorem xJ{l:List Table}{p:Pth}(h:aD l p=0):Spec Tryz.prog 106 [.sl (aa (aG l p)) false,.agg p.row] [] (.sl (cO (p.steps.length+1) (fun q=>ab (tabN l p q)) (df l p)) false) []:=by
 have hv2:=aI h;have h4:=hv2.2.1;have hsl:=aC p.steps;have htl:=aP (aG l p);have hml:=cB l p;obtain⟨N,hNN⟩:∃N,N=p.steps.length+1:=⟨_,rfl⟩
 obtain⟨R,hRR⟩:∃R:Nat→Nat,R=fun q=>ab (tabN l p q):=⟨_,rfl⟩
 rw[←hRR,←hNN];have htn:(aa (aG l p)).length=N:=by omega
 refine gEn env Tryz.func106 fun Γ hN hK hML=>?_;refine gGo ?_;intros;refine And.intro ⟨by omega,by omega,(by show(((aa (aG l p)).length:Nat):Int)*24≤_;omega),by omega⟩ ?_;rw[Int.toNat_natCast,htn];(conv=>whnf);refine gGo ?_;intros;refine W.ref (Ref.reserve 200 2 1 rfl) ?_;refine W.ref (Ref.reks 19 (rows1:=outR N 0 R) [200] rfl (uA N R) (fun i r q v hi hq=>?_) (fun q hq=>by simp at hq;subst hq;rfl)) ?_
 ·rw[←uA,List.getElem?_replicate] at hi;split at hi
  ·cases hi;cases q with
   |zero=>cases hq;intro s hs;cases hs
   |succ q=>simp at hq
  ·cases hi
 refine W.leG (mp:=[(3,3),(19,19),(200,200)]) (bo:=[]) (st':=⟨[(0,.sl (aa (aG l p)) false),(3,.bp 3 0),(5,.osl 19 0 0 N N),(20,.sl (aa (aG l p)) false),(21,.int .i64 N),(22,.int .i64 0)],[(3,[.rows 2 [p.row] none]),(19,[.rows 1 (outR N (0) R) (some [200])]),(200,marF (0) R (fun _ _=>false))],[3,19,200]⟩)
  (LeG.mk' rfl rfl rfl (by rw[←htn];exact(by repeat' (first|exact trivial|exact⟨_,.refl _,rfl⟩|apply And.intro))) (.ci 3 (.ci 19 (.fam 200 rfl (by show _=famL 2 _;unfold famL;rfl) (bI _ _ _) .nil))) rfl rfl (by rw[hK];rfl)) ?_
 have hgt:∀i,i<N→(aa (aG l p))[i]?=some (tabN l p i).row:=fun i hi=>by
  have:=cJ l p (i:=i) (by omega);unfold aa;rw[List.getElem?_map,this];rfl
 have hR4:∀i,i<N→R i≤4096:=fun i hi=>by
  rw[hRR];cases i with
  |zero=>exact(db hv2.1 p.start).1
  |succ q =>
   obtain⟨_,_,_,_,_,_,_,_,_,_,_,_,_,_,_,_,_,_,hr⟩:=iy h (show q<p.steps.length by omega);exact hr.2
 refine W.loopG (fun m st=>∃i:Nat,i≤N∧m=N-i∧st=⟨[(0,.sl (aa (aG l p)) false),(3,.bp 3 0),(5,.osl 19 0 0 N N),(20,.sl (aa (aG l p)) false),(21,.int .i64 N),(22,.int .i64 i)],[(3,[.rows 2 [p.row] none]),(19,[.rows 1 (outR N (i) R) (some [200])]),(200,marF (i) R (fun _ _=>false))],[3,19,200]⟩)
  N _ ⟨0,by omega,by omega,rfl⟩ ⟨[(3,3),(19,19),(200,200)],[],[],LeG.mq (.ci 3 (.ci 19 (.fam 200 rfl (rfl) (bI _ _ _) .nil)))⟩ ?_
 rintro m st ⟨i,hi,rfl,rfl⟩;have hol:=fR N i R;refine gT (fun hb=>?_) fun hb=>?_
 ·have hil:i<N:=by omega
  have hg:=hgt i hil;have ho:=iz (k:=i) (R:=R) hil;rw[if_neg (Nat.lt_irrefl i)] at ho;have hR:=hR4 i hil;have sp0:=dP (tabN l p i);rw[show ab (tabN l p i)=R i by rw[hRR]] at sp0;refine g ?_;refine And.intro ⟨by omega,by omega,(by show((R i:Nat):Int)*1≤_;omega),by omega⟩ ?_;rw[Int.toNat_natCast];(conv=>whnf);refine gGo ?_;refine al (by simpa using ho) ?_;(conv=>whnf);refine gGs ?_;have hfl:=DT i R (fun _ _=>false);have hms:marF i R (fun _ _=>false)++[.rows 1 (List.replicate (R i) [V.bool false]) (some [])]=marF (i+1) R (fun _ _=>false):=by
   rw[←B8];congr 1;have e:(List.range (R i)).map (fun _=>[V.bool false])=List.replicate (R i) [V.bool false]:=by rw[List.map_const',List.length_range]
   show _=[Blk.rows 1 (((List.range (R i)).map fun _=>false).map fun b=>[V.bool b]) (some [])]
   rw[List.map_map,←e];rfl
  refine W.ref (Ref.gather 31 200 (b:=.rows 1 (List.replicate (R i) [V.bool false]) (some [])) (L:=marF i R (fun _ _=>false)) (hp:=[(3,[.rows 2 [p.row] none]),(19,[.rows 1 (outR N (i+1) R) (some [200])])])
    (s':=⟨[(0,.sl (aa (aG l p)) false),(3,.bp 3 0),(5,.osl 19 0 0 N N),(20,.sl (aa (aG l p)) false),(21,.int .i64 N),(22,.int .i64 i)],[(200,marF i R (fun _ _=>false)++[.rows 1 (List.replicate (R i) [V.bool false]) (some [])]),(3,[.rows 2 [p.row] none]),(19,[.rows 1 (outR N (i+1) R) (some [200])])],_⟩)
    rfl rfl rfl rfl rfl (bI _ _ _) rfl (by repeat' (first|exact trivial|apply And.intro|rfl))
    ⟨⟨rfl,rfl,_,_,rfl,rfl,one_gat rfl,rfl⟩,⟨rfl,rfl,_,_,rfl,rfl,(by rw[hfl];exact E1 (by simp) rfl hil),rfl⟩,trivial⟩ rfl (by rw[hK];rfl)) ?_
  rw[hms];refine gGo ?_;refine⟨_,_,?_,⟨i+1,by omega,rfl,rfl⟩,[(3,3),(19,19),(200,200)],[],[],LeG.mq (.ci 3 (.ci 19 (.fam 200 rfl (rfl) (bI _ _ _) .nil)))⟩;omega
 ·have hie:i=N:=by omega
  rw[hie];have spD0:=lI h (p.steps.length+1) 0 (by omega) (by omega);have hil0:=bu .i64 (aK l p 0);rw[cA] at hil0;change _=ab (tabN l p 0) at hil0;have hR0:ab (tabN l p 0)=R 0:=by rw[hRR]
  have hg0:∀y,y<ab (tabN l p 0)→(aq .i64 (aK l p 0))[y]?=some [.int .i64 (cntI l p 0 y)]:=fun y hy=>by
   have hcl:(aK l p 0).length=ab (tabN l p 0):=by rw[cA];rfl
   rw[dN (by omega)];unfold cntI;rw[List.getD_eq_getElem?_getD,List.getElem?_eq_getElem (by omega)];rfl
  have hbd:=fu h (i:=0) (by omega);obtain⟨U,hU⟩:∃U,U=df l p:=⟨_,rfl⟩
  have hU0:∀y,y<R 0→(decide (0<cntI l p 0 y))=U 0 y:=fun y hy=>by
   have hcl:(aK l p 0).length=R 0:=by rw[cA];exact hR0
   have h1:0≤cntI l p 0 y:=by
    unfold cntI;rw[List.getD_eq_getElem?_getD,List.getElem?_eq_getElem (by omega)];exact(hbd _ (List.getElem_mem _)).1
   have h2:=ir (l:=l) (p:=p) y;rw[hU];refine Bool.eq_iff_iff.2 ?_;rw[h2,decide_eq_true_iff];omega
  rw[←hU];clear hbd;rw[hR0] at hil0 hg0;generalize aq .i64 (aK l p 0)=D0 at *;have ho0:=iz (N:=N) (k:=N) (R:=R) (q:=0) (by omega);rw[if_pos (by omega)] at ho0;(refine g ?_;intros);refine W.leG (mp:=[(3,3),(19,19),(200,200)]) (bo:=[]) (st':=⟨[(0,.sl (aa (aG l p)) false),(3,.bp 3 0),(5,.osl 19 0 0 N N),(36,.sl D0 false),(37,.int .i64 D0.length),(38,.int .i64 (0:Nat))],[(3,[.rows 2 [p.row] none]),(19,[.rows 1 (outR N (N) R) (some [200])]),(200,marF (N) R (mk0 U 0 0 false))],[3,19,200]⟩)
   (LeG.mq (.ci 3 (.ci 19 (.fam 200 rfl (by rw[←Ca];rfl) (bI _ _ _) .nil)))) ?_
  refine W.loopG (fun m st=>∃r:Nat,r≤R 0∧m=R 0-r∧st=⟨[(0,.sl (aa (aG l p)) false),(3,.bp 3 0),(5,.osl 19 0 0 N N),(36,.sl D0 false),(37,.int .i64 D0.length),(38,.int .i64 r)],[(3,[.rows 2 [p.row] none]),(19,[.rows 1 (outR N (N) R) (some [200])]),(200,marF (N) R (mk0 U 0 r false))],[3,19,200]⟩)
   (R 0) _ ⟨0,by omega,by omega,rfl⟩ ⟨[(3,3),(19,19),(200,200)],[],[],LeG.mq (.ci 3 (.ci 19 (.fam 200 rfl (rfl) (bI _ _ _) .nil)))⟩ ?_
  rintro m st ⟨r,hr,rfl,rfl⟩;have hol:=fR N N R;refine gT (fun hb=>?_) fun hb=>?_
  ·have hrl:r<R 0:=by omega
   have hgr:=hg0 r hrl;have hur:=hU0 r hrl;have hfk:=nB (N:=N) (R:=R) (A:=mk0 U 0 r false) (q:=0) (by omega);have hmt:=vO (R:=R) (A:=mk0 U 0 r false) hrl;have hset:=xF (N:=N) (R:=R) (A:=mk0 U 0 r false) (U 0 r) (show 0<N by omega) hrl;rw[AO,xG] at hset;refine g ?_;have hc:U 0 r=true∧0<cntI l p 0 r∨U 0 r=false∧¬0<cntI l p 0 r:=by
    rw[←hur];by_cases e:0<cntI l p 0 r<;>simp[e]
   rcases hc with⟨hc1,hc2⟩|⟨hc1,hc2⟩
   ·rw[hc1] at hset;refine be hc2 ?_;(conv=>whnf);refine gGo ?_;generalize hO:(ak _ 200)[2]?=O;have hO2:O=some (bolB (List.map (mk0 U 0 r false 0) (List.range (R 0)))):=by rw[←hO];exact hfk
    subst hO2;clear hO;have hlb:=eM (List.map (mk0 U 0 r false 0) (List.range (R 0)));rw[List.length_map,List.length_range] at hlb;(conv=>whnf);refine⟨hlb.symm,⟨by omega,by omega⟩,?_⟩;(conv=>whnf);refine gGo ?_;generalize hO:(ak _ 200)[2]?=O;have hO2:O=some (bolB (List.map (mk0 U 0 r false 0) (List.range (R 0)))):=by rw[←hO];exact hfk
    subst hO2;clear hO;(conv=>whnf);refine⟨hlb.symm,?_⟩;refine g ?_;refine⟨_,_,?_,⟨r+1,by omega,rfl,rfl⟩,[(3,3),(19,19),(200,200)],[],[],LeG.mq (.ci 3 (.ci 19 (.fam 200 rfl (by rw[←hset];simp only[Nat.zero_add,Int.toNat_natCast];rfl) (bI _ _ _) .nil)))⟩;omega
   ·rw[hc1] at hset;refine bM hc2 ?_;(conv=>whnf);refine gGo ?_;generalize hO:(ak _ 200)[2]?=O;have hO2:O=some (bolB (List.map (mk0 U 0 r false 0) (List.range (R 0)))):=by rw[←hO];exact hfk
    subst hO2;clear hO;have hlb:=eM (List.map (mk0 U 0 r false 0) (List.range (R 0)));rw[List.length_map,List.length_range] at hlb;(conv=>whnf);refine⟨hlb.symm,⟨by omega,by omega⟩,?_⟩;(conv=>whnf);refine gGo ?_;generalize hO:(ak _ 200)[2]?=O;have hO2:O=some (bolB (List.map (mk0 U 0 r false 0) (List.range (R 0)))):=by rw[←hO];exact hfk
    subst hO2;clear hO;(conv=>whnf);refine⟨hlb.symm,?_⟩;refine g ?_;refine⟨_,_,?_,⟨r+1,by omega,rfl,rfl⟩,[(3,3),(19,19),(200,200)],[],[],LeG.mq (.ci 3 (.ci 19 (.fam 200 rfl (by rw[←hset];simp only[Nat.zero_add,Int.toNat_natCast];rfl) (bI _ _ _) .nil)))⟩;omega
  ·have hre:r=R 0:=by omega
   rw[hre];refine gGo ?_;intros;refine W.leG (mp:=[(3,3),(19,19),(200,200)]) (bo:=[]) (st':=⟨[(0,.sl (aa (aG l p)) false),(3,.bp 3 0),(5,.osl 19 0 0 N N),(52,.sl (ae p.steps) false),(53,.int .i64 (ae p.steps).length),(54,.int .i64 (0:Nat))],[(3,[.rows 2 [p.row] none]),(19,[.rows 1 (outR N (N) R) (some [200])]),(200,marF (N) R (mk0 U 1 0 false))],[3,19,200]⟩)
    (LeG.mq (.ci 3 (.ci 19 (.fam 200 rfl (by rw[←xH];rfl) (bI _ _ _) .nil)))) ?_
   refine W.loopG (fun m st=>∃j:Nat,j≤p.steps.length∧m=p.steps.length-j∧st=⟨[(0,.sl (aa (aG l p)) false),(3,.bp 3 0),(5,.osl 19 0 0 N N),(52,.sl (ae p.steps) false),(53,.int .i64 (ae p.steps).length),(54,.int .i64 j)],[(3,[.rows 2 [p.row] none]),(19,[.rows 1 (outR N (N) R) (some [200])]),(200,marF (N) R (mk0 U (j+1) 0 false))],[3,19,200]⟩)
    p.steps.length _ ⟨0,by omega,by omega,rfl⟩ ⟨[(3,3),(19,19),(200,200)],[],[],LeG.mq (.ci 3 (.ci 19 (.fam 200 rfl (rfl) (bI _ _ _) .nil)))⟩ ?_
   rintro m st ⟨j,hj,rfl,rfl⟩;have hol:=fR N N R;refine gT (fun hb=>?_) fun hb=>?_
   ·have hjl:j<p.steps.length:=by omega
    obtain⟨s,c1,c2,colA,colB,hsg,hc1,hc2,spP,hpar,hg1,hg2,k1,k2,l1,l2,f1,f2,b1,b2⟩:=iy h hjl;have spD:=lI h (p.steps.length+1) (j+1) (by omega) (by omega);rw[show((j+1:Nat):Int)=(j:Int)+1 from rfl] at spD;have hbl:=fu h (show j+1≤p.steps.length by omega);have hcn:∀y,y<R (j+1)→0≤cntI l p (j+1) y:=fun y hy=>by
     have hcl:(aK l p (j+1)).length=R (j+1):=by rw[cA,hRR];rfl
     unfold cntI;rw[List.getD_eq_getElem?_getD,List.getElem?_eq_getElem (by omega)];exact(hbl _ (List.getElem_mem _)).1
    have hcg:∀y,y<R (j+1)→(aq .i64 (aK l p (j+1)))[y]?=some [.int .i64 (cntI l p (j+1) y)]:=fun y hy=>by
     have hcl:(aK l p (j+1)).length=R (j+1):=by rw[cA,hRR];rfl
     rw[dN (by omega)];unfold cntI;rw[List.getD_eq_getElem?_getD,List.getElem?_eq_getElem (by omega)];rfl
    have hcl:=bu .i64 (aK l p (j+1));rw[cA] at hcl;change _=ab (tabN l p (j+1)) at hcl;have hus:=fun y=>mG (l:=l) (p:=p) (y:=y) hjl;rw[←hU] at hus;have e1:ab (tabN l p (j+1))=R (j+1):=by rw[hRR]
    have e2:ab (tabN l p (parI p j))=R (parI p j):=by rw[hRR]
    rw[e1] at hcl l2 b2;rw[e2] at l1 b1 hus;clear hbl;generalize aq .i64 (aK l p (j+1))=D at *;generalize hk:parI p j=k at *;obtain⟨xa,hxa⟩:∃xa:Nat→Cell,xa=fun x=>ay (tabN l p k) (frN l p (j+1)) x:=⟨_,rfl⟩
    obtain⟨xb,hxb⟩:∃xb:Nat→Cell,xb=fun y=>ay (tabN l p (j+1)) (ownN l p (j+1)) y:=⟨_,rfl⟩
    have hok:=iz (N:=N) (k:=N) (R:=R) (q:=k) (by omega);rw[if_pos (by omega)] at hok;have hoj:=iz (N:=N) (k:=N) (R:=R) (q:=j+1) (by omega);rw[if_pos (by omega)] at hoj;have hcA:=aF colA.cells;have hcB:=aF colB.cells;(refine g ?_;intros);refine W.leG (mp:=[(3,3),(19,19),(200,200),(11,11)]) (bo:=[]) (st':=⟨[(0,.sl (aa (aG l p)) false),(3,.bp 3 0),(5,.osl 19 0 0 N N),(10,.int .i64 j),(11,.bp 11 0),(12,.int .i64 k),(52,.sl (ae p.steps) false),(53,.int .i64 (ae p.steps).length),(54,.int .i64 j),(69,.sl D false),(70,.int .i64 D.length),(71,.int .i64 (0:Nat))],[(3,[.rows 2 [p.row] none]),(19,[.rows 1 (outR N (N) R) (some [200])]),(200,marF (N) R (mk0 U (j+1) 0 false)),(11,[.rows 4 [s.row] none])],[3,19,200,11]⟩)
     (LeG.mq (.ci 3 (.ci 19 (.fam 200 rfl rfl (bI _ _ _) (.ci 11 .nil))))) ?_
    refine W.loopG (fun m st=>∃y:Nat,y≤R (j+1)∧m=R (j+1)-y∧st=⟨[(0,.sl (aa (aG l p)) false),(3,.bp 3 0),(5,.osl 19 0 0 N N),(10,.int .i64 j),(11,.bp 11 0),(12,.int .i64 k),(52,.sl (ae p.steps) false),(53,.int .i64 (ae p.steps).length),(54,.int .i64 j),(69,.sl D false),(70,.int .i64 D.length),(71,.int .i64 y)],[(3,[.rows 2 [p.row] none]),(19,[.rows 1 (outR N (N) R) (some [200])]),(200,marF (N) R (mk0 U (j+1) y false)),(11,[.rows 4 [s.row] none])],[3,19,200,11]⟩)
     (R (j+1)) _ ⟨0,by omega,by omega,rfl⟩ ⟨[(3,3),(19,19),(200,200),(11,11)],[],[],LeG.mq (.ci 3 (.ci 19 (.fam 200 rfl (rfl) (bI _ _ _) (.ci 11 .nil))))⟩ ?_
    rintro m st ⟨y,hy,rfl,rfl⟩;refine gT (fun hb=>?_) fun hb=>?_
    ·have hyl:y<R (j+1):=by omega
     have hgy:=hcg y hyl;have hny:=hcn y hyl;have huy:=hus y;have hcy:=aY (l:=colB.cells) (i:=y) (by omega);rw[f2 y (by omega)] at hcy;generalize ay (tabN l p (j+1)) (ownN l p (j+1)) y=cb at *;generalize cntI l p (j+1) y=n at *;obtain⟨g,hg⟩:∃g:Nat→Bool,g=fun x=>decide (0<n)&&U k x&&fitC (xa x) cb:=⟨_,rfl⟩
     have hpe:parB g (R k)=U (j+1) y:=by
      refine Bool.eq_iff_iff.2 ?_;rw[xI,huy,hg,hxa];constructor
      ·rintro⟨x,h1,h2⟩;simp only[Bool.and_eq_true,decide_eq_true_iff] at h2;exact⟨by omega,x,h1,h2.1.2,h2.2⟩
      ·rintro⟨h1,x,h2,h3,h4⟩;refine⟨x,h2,?_⟩;simp only[Bool.and_eq_true,decide_eq_true_iff];exact⟨⟨by omega,h3⟩,h4⟩
     refine gGo ?_;refine al (by simpa using hgy) ?_;(conv=>whnf);refine gGo ?_;refine al (r:=(tabN l p k).row) (by simpa using hg1) ?_;(conv=>whnf);refine gGo ?_;refine al (r:=colA.row) (by rw[hc1,Int.toNat_natCast];exact k1) ?_;(conv=>whnf);refine gGo ?_;intros;refine W.leG (mp:=[(3,3),(19,19),(200,200),(11,11)]) (bo:=[]) (st':=⟨[(0,.sl (aa (aG l p)) false),(3,.bp 3 0),(5,.osl 19 0 0 N N),(10,.int .i64 j),(11,.bp 11 0),(12,.int .i64 k),(52,.sl (ae p.steps) false),(53,.int .i64 (ae p.steps).length),(54,.int .i64 j),(69,.sl D false),(70,.int .i64 D.length),(71,.int .i64 y),(13,.int .i64 y),(14,.int .i64 n),(86,.sl (aj colA.cells) false),(87,.int .i64 (aj colA.cells).length),(88,.int .i64 (0:Nat))],[(3,[.rows 2 [p.row] none]),(19,[.rows 1 (outR N (N) R) (some [200])]),(200,marF (N) R (mk0 U (j+1) y (parB g 0))),(11,[.rows 4 [s.row] none])],[3,19,200,11]⟩)
      (LeG.mq (.ci 3 (.ci 19 (.fam 200 rfl (rfl) (bI _ _ _) (.ci 11 .nil))))) ?_
     refine W.loopG (fun m st=>∃x:Nat,x≤R k∧m=R k-x∧st=⟨[(0,.sl (aa (aG l p)) false),(3,.bp 3 0),(5,.osl 19 0 0 N N),(10,.int .i64 j),(11,.bp 11 0),(12,.int .i64 k),(52,.sl (ae p.steps) false),(53,.int .i64 (ae p.steps).length),(54,.int .i64 j),(69,.sl D false),(70,.int .i64 D.length),(71,.int .i64 y),(13,.int .i64 y),(14,.int .i64 n),(86,.sl (aj colA.cells) false),(87,.int .i64 (aj colA.cells).length),(88,.int .i64 x)],[(3,[.rows 2 [p.row] none]),(19,[.rows 1 (outR N (N) R) (some [200])]),(200,marF (N) R (mk0 U (j+1) y (parB g x))),(11,[.rows 4 [s.row] none])],[3,19,200,11]⟩)
      (R k) _ ⟨0,by omega,by omega,rfl⟩ ⟨[(3,3),(19,19),(200,200),(11,11)],[],[],LeG.mq (.ci 3 (.ci 19 (.fam 200 rfl (rfl) (bI _ _ _) (.ci 11 .nil))))⟩ ?_
     rintro m st ⟨x,hx,rfl,rfl⟩;refine gT (fun hb=>?_) fun hb=>?_
     ·have hxl:x<R k:=by omega
      have hcx:=aY (l:=colA.cells) (i:=x) (by omega);rw[f1 x (by omega),←congrFun hxa x] at hcx;have hgx:g x=(decide (0<n)&&U k x&&fitC (xa x) cb):=by rw[hg]
      have hp1:parB g (x+1)=(parB g x ||g x):=rfl;generalize parB g x=b at *;generalize xa x=ca at *;have hfk:=nB (N:=N) (R:=R) (A:=mk0 U (j+1) y b) (q:=k) (by omega);have hmt:=vO (R:=R) (A:=mk0 U (j+1) y b) hxl;rw[DU (by omega)] at hmt;have hfj:=nB (N:=N) (R:=R) (A:=mk0 U (j+1) y b) (q:=j+1) (by omega);have hmj:=vO (R:=R) (A:=mk0 U (j+1) y b) hyl;have hset:=xF (N:=N) (R:=R) (A:=mk0 U (j+1) y b) true (show j+1<N by omega) hyl;rw[AO] at hset;have spF:=rL ca cb;refine gGo ?_;refine al (by simpa using hcx) ?_;(conv=>whnf);refine gGo ?_;have hnc:0<n∨¬0<n:=by omega
      rcases hnc with hn|hn
      ·refine be hn ?_;rw[decide_eq_true hn,Bool.true_and] at hgx;(conv=>whnf);refine gGo ?_;refine al (by simpa using hok) ?_;(conv=>whnf);refine gGo ?_;generalize hO:(ak _ 200)[k+2]?=O;have hO2:O=some (bolB (List.map (mk0 U (j+1) y b k) (List.range (R k)))):=by rw[←hO];exact hfk
       subst hO2;clear hO;have hlb:=eM (List.map (mk0 U (j+1) y b k) (List.range (R k)));rw[List.length_map,List.length_range] at hlb;(conv=>whnf);refine⟨hlb.symm,⟨by omega,by omega⟩,?_⟩;(conv=>whnf);refine gGo ?_;generalize hO:(ak _ 200)[k+2]?=O;have hO2:O=some (bolB (List.map (mk0 U (j+1) y b k) (List.range (R k)))):=by rw[←hO];exact hfk
       subst hO2;clear hO;(conv=>whnf);refine⟨hlb.symm,?_⟩;refine al (by simpa using hmt) ?_;(conv=>whnf);refine gGo ?_;generalize U k x=ux at *;cases ux with
       |false =>
        rw[Bool.false_and,] at hgx;(conv=>whnf);refine gGo ?_;rw[hgx,Bool.or_false] at hp1;refine⟨_,_,?_,⟨x+1,by omega,rfl,rfl⟩,[(3,3),(19,19),(200,200),(11,11)],[],[],LeG.mq (.ci 3 (.ci 19 (.fam 200 rfl (by rw[hp1];rfl) (bI _ _ _) (.ci 11 .nil))))⟩;omega
       |true =>
        rw[Bool.true_and] at hgx;(conv=>whnf);refine gGo ?_;refine al (r:=(tabN l p (j+1)).row) (by rw[show((j:Int)+1).toNat=j+1 by omega];exact hg2) ?_;(conv=>whnf);refine gGo ?_;refine al (r:=colB.row) (by rw[hc2,Int.toNat_natCast];exact k2) ?_;(conv=>whnf);refine gGo ?_;refine al (by simpa using hcy) ?_;(conv=>whnf);refine gGo ?_;(refine gPC (spF) ?_;conv=>whnf);generalize fitC ca cb=f at *;cases f with
        |false =>
         rw[hgx,Bool.or_false] at hp1;(conv=>whnf);refine gGo ?_;refine⟨_,_,?_,⟨x+1,by omega,rfl,rfl⟩,[(3,3),(19,19),(200,200),(11,11)],[],[],LeG.mq (.ci 3 (.ci 19 (.fam 200 rfl (by rw[hp1];rfl) (bI _ _ _) (.ci 11 .nil))))⟩;omega
        |true =>
         rw[hgx,Bool.or_true] at hp1;(conv=>whnf);refine gGo ?_;refine al (by rw[show(0+((j:Int)+1).toNat)=j+1 by omega];exact hoj) ?_;(conv=>whnf);refine gGo ?_;generalize hO:(ak _ 200)[j+1+2]?=O;have hO2:O=some (bolB (List.map (mk0 U (j+1) y b (j+1)) (List.range (R (j+1))))):=by rw[←hO];exact hfj
         subst hO2;clear hO;have hlb2:=eM (List.map (mk0 U (j+1) y b (j+1)) (List.range (R (j+1))));rw[List.length_map,List.length_range] at hlb2;(conv=>whnf);refine⟨hlb2.symm,⟨by omega,by omega⟩,?_⟩;(conv=>whnf);refine gGo ?_;generalize hO:(ak _ 200)[j+1+2]?=O;have hO2:O=some (bolB (List.map (mk0 U (j+1) y b (j+1)) (List.range (R (j+1))))):=by rw[←hO];exact hfj
         subst hO2;clear hO;(conv=>whnf);refine⟨hlb2.symm,?_⟩;refine al (by simpa using hmj) ?_;(conv=>whnf);refine gGo ?_;refine⟨_,_,?_,⟨x+1,by omega,rfl,rfl⟩,[(3,3),(19,19),(200,200),(11,11)],[],[],LeG.mq (.ci 3 (.ci 19 (.fam 200 rfl (by rw[hp1,←hset];simp only[Nat.zero_add,Int.toNat_natCast];rfl) (bI _ _ _) (.ci 11 .nil))))⟩;omega
      ·refine bM hn ?_;rw[decide_eq_false hn,Bool.false_and,Bool.false_and] at hgx;(conv=>whnf);refine gGo ?_;rw[hgx,Bool.or_false] at hp1;refine⟨_,_,?_,⟨x+1,by omega,rfl,rfl⟩,[(3,3),(19,19),(200,200),(11,11)],[],[],LeG.mq (.ci 3 (.ci 19 (.fam 200 rfl (by rw[hp1];rfl) (bI _ _ _) (.ci 11 .nil))))⟩;omega
     ·have hxe:x=R k:=by omega
      rw[hxe,hpe,xG];refine gGo ?_;refine⟨_,_,?_,⟨y+1,by omega,rfl,rfl⟩,[(3,3),(19,19),(200,200),(11,11)],[],[],LeG.mq (.ci 3 (.ci 19 (.fam 200 rfl (rfl) (bI _ _ _) (.ci 11 .nil))))⟩;omega
    ·have hye:y=R (j+1):=by omega
     rw[hye];refine gGo ?_;refine⟨_,_,?_,⟨j+1,by omega,rfl,rfl⟩,[(3,3),(19,19),(200,200)],[],[],LeG.mq (.ci 3 (.ci 19 (.fam 200 rfl (by rw[xH];rfl) (bI _ _ _) .nil)))⟩;omega
   ·have hje:j=p.steps.length:=by omega
    rw[hje,show p.steps.length+1=N from hNN.symm,DV];refine gGo ?_;refine W.leG (mp:=[(19,19)]) (bo:=[200]) (st':=⟨[(4,.osl 19 0 0 N N)],[(19,[.rows 1 (cO N R U) (some [])])],[19]⟩)
     (LeG.mq (.cons 19 (b1:=.rows 1 (cO N R U) (some [])) rfl rfl (B9 rfl rfl) rfl .nil)) ?_
    refine W.leG (mp:=[]) (bo:=[19]) (st':=⟨[(4,.sl (cO N R U) false)],[],[]⟩)
     (LeG.mk' rfl rfl rfl ⟨⟨_,Lent.whole rfl rfl (gi N R U).symm rfl (.inl rfl),rfl⟩,trivial⟩ .nil rfl rfl (by rw[hK];rfl)) ?_
    (refine gM ?_;conv=>whnf);exact ret0 rfl rfl rfl
theorem vP{N:Nat}{R:Nat→Nat}{A:Nat→Nat→Bool}{q:Nat}(h:q<N):(cO N R A)[q]?=some [.sl (cY ((List.range (R q)).map (A q))) false]:=by
 unfold cO;rw[List.getElem?_map,jr h];rfl
theorem xK(N:Nat)(R:Nat→Nat)(A:Nat→Nat→Bool):bA (cO N R A) 1:=Bg fun r hr=>by
 unfold cO at hr;obtain⟨b,_,rfl⟩:=List.mem_map.1 hr;rfl
theorem tq(l:List Table)(p:Pth):Spec Tryz.prog 47 [.sl (aa l) false,.agg p.row] [] (.tup [.agg (repE l p).1.row,.int .i64 (repE l p).2]) []:=by
 have sp1:=xE l p;by_cases h:aD l p=0
 ·have he:repE l p=(repL ((List.range p.steps.length).map fun q=>unuN l p (q+1)) (aK l p 0),0):=by unfold repE;rw[if_pos h,kX _ (Nat.le_refl _)]
  have hE:rC l p=(aK l p 0,0):=by unfold rC;rw[if_pos h]
  rw[hE] at sp1;have h4:=(aI h).2.1;have sp2:=eo l p (by omega);have sp3:=xJ h;have hpb:=fu h (Nat.zero_le _);have hrows:(aK l p 0).length≤4096:=by
   rw[cA];exact(db (aI h).1 _).1
  rw[he];dsimp only at sp1 ⊢;generalize aK l p 0=cs at *;have hrb:=rE [] 1125899906842624 (by decide) cs hpb;have hcl:=bu .i64 cs;have hun:repL ((List.range p.steps.length).map fun q=>unuN l p (q+1)) cs={ repL [] cs with unused:=(List.range p.steps.length).map fun q=>unuN l p (q+1) }:=by
   have:∀(cs:List Int) (a:Rep) (un:List Int),cs.foldl eW { a with unused:=un }={ cs.foldl eW a with unused:=un }:=by
    intro cs
    induction cs with
    |nil=>intros;rfl
    |cons c cs ih=>intro a un;rw[List.foldl_cons,List.foldl_cons,←ih];rfl
   exact this cs ⟨0,0,0,[]⟩ _
  rw[hun];clear hun;refine gEn env Tryz.func47 fun Γ hN hK hML=>?_;(refine g ?_;intros);refine W.leG (mp:=[(3,3),(4,4),(8,8)]) (bo:=[]) (st':=⟨[(0,.sl (aa l) false),(3,.bp 3 0),(4,.bp 4 0),(8,.bp 8 0),(26,.sl (aq .i64 cs) false),(27,.int .i64 (aq .i64 cs).length),(28,.int .i64 0)],[(3,[.rows 2 [p.row] none]),(4,[.rows 4 [[.int .i64 0,.int .i64 0,.int .i64 0,.nils]] none]),(8,[.rows 4 [[.int .i64 0,.int .i64 0,.int .i64 0,.nils]] none])],[3,4,8]⟩)
   (LeG.mq (.ci 3 (.ci 4 (.ci 8 .nil)))) ?_
  refine W.loopG (fun n st=>∃j:Nat,j≤cs.length∧n=cs.length-j∧st=⟨[(0,.sl (aa l) false),(3,.bp 3 0),(4,.bp 4 0),(8,.bp 8 0),(26,.sl (aq .i64 cs) false),(27,.int .i64 (aq .i64 cs).length),(28,.int .i64 j)],[(3,[.rows 2 [p.row] none]),(4,[.rows 4 [[.int .i64 0,.int .i64 0,.int .i64 0,.nils]] none]),(8,[.rows 4 [[.int .i64 (repL [] (cs.take j)).rows,.int .i64 (repL [] (cs.take j)).lost,.int .i64 (repL [] (cs.take j)).most,.nils]] none])],[3,4,8]⟩)
   cs.length _ ⟨0,by omega,by omega,rfl⟩ gX ?_
  rintro n st ⟨j,hj,rfl,rfl⟩;have hb0:=hrb j hj;refine gT (fun hb=>?_) fun hb=>?_
  ·have hlt:j<cs.length:=by omega
   have hg1:=dN (k:=.i64) hlt;have hsn:=ul [] hlt;have hb1:=hrb (j+1) (by omega);generalize repL [] (cs.take j)=R0 at *;have hx:=hpb cs[j] (List.getElem_mem hlt);generalize cs[j]=x at *;unfold eW at hsn;by_cases hx0:x=0
   ·rw[if_pos hx0] at hsn;rw[hsn] at hb1;simp only at hb1;refine g ?_;refine⟨_,_,?_,⟨j+1,by omega,rfl,rfl⟩,[(3,3),(4,4),(8,8)],[],[],LeG.mq (.ci 3 (.ci 4 (.cons 8 rfl rfl (.refl _) ?_ .nil)))⟩
    ·omega
    ·rw[hsn];rfl
   ·rw[if_neg hx0] at hsn;rw[hsn] at hb1;simp only at hb1;refine g ?_;refine⟨_,_,?_,⟨j+1,by omega,rfl,rfl⟩,[(3,3),(4,4),(8,8)],[],[],LeG.mq (.ci 3 (.ci 4 (.cons 8 rfl rfl (.refl _) ?_ .nil)))⟩
    ·omega
    ·rw[hsn];rfl
  ·have hje:j=cs.length:=by omega
   rw[hje,List.take_length];generalize repL [] cs=R0 at *;obtain⟨N,hNN⟩:∃N,N=p.steps.length+1:=⟨_,rfl⟩
   obtain⟨R,hRR⟩:∃R:Nat→Nat,R=fun q=>ab (tabN l p q):=⟨_,rfl⟩
   have hgk:∀q,q<p.steps.length→((cO N R (df l p)).drop 1)[q]?=some [.sl (cY ((List.range (R (q+1))).map (df l p (q+1)))) false]:=fun q hq=>by
    rw[List.getElem?_drop,show 1+q=q+1 by omega];exact vP (by omega)
   have hR4:∀i,i<p.steps.length→R (i+1)≤4096:=fun i hi=>by
    obtain⟨_,_,_,_,_,_,_,_,_,_,_,_,_,_,_,_,_,_,hr⟩:=iy h hi;rw[hRR];exact hr.2
   have hun:∀q,unuN l p q=bS (R q) fun r=>if df l p q r=true then 0 else 1:=fun q=>by rw[hRR];rfl
   have hsz:=xK N R (df l p);have hmk:=gi N R (df l p);have hdl:((cO N R (df l p)).drop 1).length=p.steps.length:=by rw[List.length_drop];omega
   rw[←hRR,←hNN] at sp3;generalize cO N R (df l p)=M at *;generalize hU:df l p=U at *;(refine g ?_;intros);rw[show List.drop (Int.toNat 1) (List.take ((M.length:Nat):Int).toNat M)=M.drop 1 by rw[Int.toNat_natCast,List.take_length];rfl];generalize M.drop 1=M1 at *;refine W.ownCell 8 0 3 91 1 rfl rfl rfl rfl rfl ?_;refine W.leG (mp:=[(3,3),(4,4),(8,8),(91,91)]) (bo:=[]) (st':=⟨[(0,.sl (aa l) false),(3,.bp 3 0),(4,.bp 4 0),(8,.bp 8 0),(54,.sl M1 false),(55,.int .i64 M1.length),(56,.int .i64 (0:Nat))],[(3,[.rows 2 [p.row] none]),(4,[.rows 4 [[.int .i64 0,.int .i64 0,.int .i64 0,.nils]] none]),(8,[.rows 4 [[.int .i64 R0.rows,.int .i64 R0.lost,.int .i64 R0.most,.osl 91 0 0 (aq .i64 ((List.range (0)).map fun q=>unuN l p (q+1))).length (aq .i64 ((List.range (0)).map fun q=>unuN l p (q+1))).length]] none]),(91,[.rows 1 (aq .i64 ((List.range (0)).map fun q=>unuN l p (q+1))) (some [])])],[3,4,8,91]⟩)
    (LeG.mq (.ci 3 (.ci 4 (.ci 8 (.ci 91 .nil))))) ?_
   refine W.loopG (fun n st=>∃q:Nat,q≤p.steps.length∧n=p.steps.length-q∧st=⟨[(0,.sl (aa l) false),(3,.bp 3 0),(4,.bp 4 0),(8,.bp 8 0),(54,.sl M1 false),(55,.int .i64 M1.length),(56,.int .i64 q)],[(3,[.rows 2 [p.row] none]),(4,[.rows 4 [[.int .i64 0,.int .i64 0,.int .i64 0,.nils]] none]),(8,[.rows 4 [[.int .i64 R0.rows,.int .i64 R0.lost,.int .i64 R0.most,.osl 91 0 0 (aq .i64 ((List.range (q)).map fun q=>unuN l p (q+1))).length (aq .i64 ((List.range (q)).map fun q=>unuN l p (q+1))).length]] none]),(91,[.rows 1 (aq .i64 ((List.range (q)).map fun q=>unuN l p (q+1))) (some [])])],[3,4,8,91]⟩)
    p.steps.length _ ⟨0,by omega,by omega,rfl⟩ gX ?_
   rintro n st ⟨q,hq,rfl,rfl⟩;have hul:(aq .i64 ((List.range q).map fun q=>unuN l p (q+1))).length=q:=by rw[bu,List.length_map,List.length_range]
   refine gT (fun hb=>?_) fun hb=>?_
   ·have hlt:q<p.steps.length:=by omega
    have hgq:=hgk q hlt;have h40:=hR4 q hlt;have hun1:=hun (q+1);generalize R (q+1)=n1 at *;have hbl:=eM ((List.range n1).map (U (q+1)));rw[List.length_map,List.length_range] at hbl;have hbg:∀y,y<n1→(cY ((List.range n1).map (U (q+1))))[y]?=some [.bool (U (q+1) y)]:=fun y hy=>by
     rw[pK (by simpa using hy)];simp
    generalize cY ((List.range n1).map (U (q+1)))=BR at *;have hu2:(List.range (q+1)).map (fun q=>unuN l p (q+1))=(List.range q).map (fun q=>unuN l p (q+1))++[unuN l p (q+1)]:=by rw[List.range_succ,List.map_append];rfl
    generalize U (q+1)=u at *;have hsb:∀y,0≤bS y (fun r=>if u r=true then 0 else 1)∧bS y (fun r=>if u r=true then(0:Int) else 1)≤y:=fun y=>by
     induction y with
     |zero=>simp[bS]
     |succ y ih =>
      rw[bF];split<;>omega
    (refine g ?_;intros);refine W.leG (mp:=[(3,3),(4,4),(8,8),(91,91)]) (bo:=[]) (st':=⟨[(0,.sl (aa l) false),(3,.bp 3 0),(4,.bp 4 0),(8,.bp 8 0),(54,.sl M1 false),(55,.int .i64 M1.length),(56,.int .i64 q),(60,.sl BR false),(61,.int .i64 BR.length),(13,.int .i64 (bS 0 fun r=>if u r=true then 0 else 1)),(62,.int .i64 (0:Nat))],[(3,[.rows 2 [p.row] none]),(4,[.rows 4 [[.int .i64 0,.int .i64 0,.int .i64 0,.nils]] none]),(8,[.rows 4 [[.int .i64 R0.rows,.int .i64 R0.lost,.int .i64 R0.most,.osl 91 0 0 (aq .i64 ((List.range (q)).map fun q=>unuN l p (q+1))).length (aq .i64 ((List.range (q)).map fun q=>unuN l p (q+1))).length]] none]),(91,[.rows 1 (aq .i64 ((List.range (q)).map fun q=>unuN l p (q+1))) (some [])])],[3,4,8,91]⟩)
     (LeG.mq (.ci 3 (.ci 4 (.ci 8 (.ci 91 .nil))))) ?_
    refine W.loopG (fun n st=>∃y:Nat,y≤n1∧n=n1-y∧st=⟨[(0,.sl (aa l) false),(3,.bp 3 0),(4,.bp 4 0),(8,.bp 8 0),(54,.sl M1 false),(55,.int .i64 M1.length),(56,.int .i64 q),(60,.sl BR false),(61,.int .i64 BR.length),(13,.int .i64 (bS y fun r=>if u r=true then 0 else 1)),(62,.int .i64 y)],[(3,[.rows 2 [p.row] none]),(4,[.rows 4 [[.int .i64 0,.int .i64 0,.int .i64 0,.nils]] none]),(8,[.rows 4 [[.int .i64 R0.rows,.int .i64 R0.lost,.int .i64 R0.most,.osl 91 0 0 (aq .i64 ((List.range (q)).map fun q=>unuN l p (q+1))).length (aq .i64 ((List.range (q)).map fun q=>unuN l p (q+1))).length]] none]),(91,[.rows 1 (aq .i64 ((List.range (q)).map fun q=>unuN l p (q+1))) (some [])])],[3,4,8,91]⟩)
     n1 _ ⟨0,by omega,by omega,rfl⟩ gX ?_
    rintro n st ⟨y,hy,rfl,rfl⟩;have hb1:=hsb y;have hb2:=hsb (y+1);have hst:=bF y (fun r=>if u r=true then(0:Int) else 1);refine gT (fun hb=>?_) fun hb=>?_
    ·have hyl:y<n1:=by omega
     have hgy:=hbg y hyl;cases hux:u y with
     |true =>
      rw[hux] at hgy;rw[if_pos hux,Int.add_zero] at hst;refine g ?_;refine⟨_,_,?_,⟨y+1,by omega,rfl,rfl⟩,[(3,3),(4,4),(8,8),(91,91)],[],[],LeG.mk' rfl rfl rfl (by rw[hst];exact(by repeat' (first|exact trivial|exact⟨_,.refl _,rfl⟩|apply And.intro))) (.ci 3 (.ci 4 (.ci 8 (.ci 91 .nil)))) rfl rfl (by rw[hK];rfl)⟩;omega
     |false =>
      rw[hux] at hgy;rw[if_neg (by rw[hux];decide)] at hst;refine g ?_;refine⟨_,_,?_,⟨y+1,by omega,rfl,rfl⟩,[(3,3),(4,4),(8,8),(91,91)],[],[],LeG.mk' rfl rfl rfl (by rw[hst];exact(by repeat' (first|exact trivial|exact⟨_,.refl _,rfl⟩|apply And.intro))) (.ci 3 (.ci 4 (.ci 8 (.ci 91 .nil)))) rfl rfl (by rw[hK];rfl)⟩;omega
    ·have hye:y=n1:=by omega
     rw[hye,←hun1];refine gGo ?_;refine⟨⟨ao rfl au,rfl⟩,bc (n:=(aq .i64 ((List.range q).map fun q=>unuN l p (q+1))).length+1) (b:=8) (by omega) (by omega),.inl ⟨rfl,rfl,?_⟩⟩;(conv=>whnf);refine gGo ?_;refine⟨_,_,?_,⟨q+1,by omega,rfl,rfl⟩,[(3,3),(4,4),(8,8),(91,91)],[],[],LeG.mq (.ci 3 (.ci 4 (.cons 8 rfl rfl (.refl _) (by rw[hu2];unfold aq;rw[List.map_append,List.length_append];rfl) (.cons 91 rfl rfl (.refl _) (by rw[hu2];unfold aq;rw[List.map_append];rfl) .nil))))⟩;omega
   ·have hqe:q=p.steps.length:=by omega
    rw[hqe];refine gGo ?_;generalize hX:({ R0 with unused:=(List.range p.steps.length).map fun q=>unuN l p (q+1) }:Rep)=X;refine W.leG (mp:=[(4,4)]) (bo:=[91]) (st':=⟨[(4,.bp 4 0),(5,.int .i64 0)],[(4,[.rows 4 [X.row] none])],[4]⟩)
     (LeG.mq (.cons 4 (b1:=.rows 4 [X.row] none) rfl rfl (by rw[←hX];exact(.rows _ _ _ (by repeat' (first|exact trivial|exact⟨Lent.refl _,rfl⟩|exact⟨Lent.whole rfl rfl rfl rfl (.inl rfl),rfl⟩|apply And.intro)))) rfl .nil)) ?_
    (refine gM ?_;conv=>whnf);exact retH rfl (.norm _) rfl rfl rfl trivial
 ·have hE:rC l p=([],aD l p):=by unfold rC;rw[if_neg h]
  have he:repE l p=(⟨0,0,0,[]⟩,aD l p):=by unfold repE;rw[if_neg h]
  rw[hE] at sp1;rw[he];dsimp only at sp1 ⊢;refine gEn env Tryz.func47 fun Γ hN hK hML=>?_;refine g ?_;(refine gM ?_;conv=>whnf);exact retH rfl (.norm _) rfl rfl rfl trivial
end Go.Sx.Sp
