/- Finding answers as the document tells it. -/
import Derived.Test.YthlokmbefpjmgaaGreatDoorExEight
import Derived.Test.YthlokmbefpjmgaaGreatDoorJSeven
import Derived.Test.YthlokmbefpjmgaaGreatDoorJSix
import Derived.Test.YthlokmbefpjmgaaGreatDoorExThree
import Derived.Test.YthlokmbefpjmgaaGreatDoorSxFive
import Derived.Test.YthlokmbefpjmgaaGreatDoorSxFour
set_option linter.unusedVariables false
set_option linter.unusedSimpArgs false
set_option maxHeartbeats 16000000
namespace Go.Sx.Sp
open Go Go.Sx Go.Proofs Go.Sort
attribute [local irreducible] aO famL
theorem iG(l:List Fnd):bA (av l) 5:=by
 unfold bA av;intro r hr;obtain⟨c,_,rfl⟩:=List.mem_map.1 hr;rfl
theorem tD(l:List Table)(E:List (List Int))(q:Table)(steps k:Int)(h11:∀r∈E,ky r)(hE:E.length≤100):Spec Tryz.prog 21 [.sl (aa l) false,.sl (aA E) false,.agg q.row,.int .i64 steps,.int .i64 k] [] (.tup [.sl (av (nZ l E q steps k).1) false,.int .i64 (nZ l E q steps k).2]) []:=by
 have spV:=lj q;have spP:=lk l E steps h11 hE;have hpl:=oa l E steps;have hpm:=fun p (hp:p∈(bK l E steps).1)=>n7 hp;unfold nZ;by_cases hk:0≤k∧k≤1024
 ·rw[if_pos hk];obtain⟨k,rfl⟩:∃n:Nat,k=n:=⟨k.toNat,by omega⟩
  rw[Int.toNat_natCast];by_cases hq:exE q=0
  ·rw[if_pos hq];rw[hq] at spV;generalize bK l E steps=pe at *;obtain⟨ps,e⟩:=pe;simp only at hpl spP hpm ⊢;have hpr:=ba ps;by_cases he:e=0
   ·subst he;rw[if_pos rfl];have hval:∀p∈ps,aD l p=0:=fun p hp=>by
     obtain⟨h1,h2,h3⟩:=hpm p hp;exact p8 h1 (by omega) h3
    have hOl:∀(ps:List Pth),(∀p∈ps,aD l p=0)→(ps.flatMap (cP l q)).length≤ps.length*32768000:=fun ps=>by
     induction ps with
     |nil=>intro _;simp
     |cons p ps ih =>
      intro h;rw[List.flatMap_cons,List.length_append,List.length_cons,Nat.add_mul];have h1:=ih fun x hx=>h x (List.mem_cons_of_mem _ hx);have h2:=qe (q:=q) (h p List.mem_cons_self) hq;omega
    obtain⟨hqv,hq0,hq3⟩:=sW hq;obtain⟨hqr,hqb⟩:=qd hqv;refine gEn env Tryz.func21 fun Γ hN hK hML=>?_;(refine g ?_;intros);refine W.loopR (fun m st=>∃(j:Nat) (O:List Fnd),j≤ps.length∧O=((ps.take j).flatMap (cP l q)).foldl (insC fndC) []∧m=ps.length-j∧st=⟨[(0,.sl (aa l) false),(4,.int .i64 (k:Nat)),(7,.bp 7 0),(15,.sl (av O) false),(51,.sl (ah ps) false),(52,.int .i64 (ah ps).length),(53,.int .i64 (j:Nat))],[(7,[.rows 3 [q.row] none])],[7]⟩)
     ps.length _ ⟨0,[],by omega,rfl,by omega,rfl⟩ (Ref.le (mp:=[(7,7)]) (bo:=[]) (gs:=[]) (LeG.mk' rfl rfl rfl (by repeat' (first|exact trivial|exact⟨_,.refl _,rfl⟩|exact⟨_,.norm _,rfl⟩|apply And.intro)) (.ci 7 .nil) rfl rfl (by rw[hK];rfl))) ?_
    rintro m st ⟨j,O,hj,hO,rfl,rfl⟩;have hol:=bE O;have hOb:O.length≤1024*32768000:=by
     rw[hO,lS ln,bX];refine Nat.le_trans (hOl _ fun p hp=>hval p (List.mem_of_mem_take hp)) (Nat.mul_le_mul_right _ ?_);rw[List.length_take];omega
    refine gT (fun hb=>?_) fun hb=>?_
    ·have hlt:j<ps.length:=by omega
     have hg:=fU hlt;have hv:=hval ps[j] (List.getElem_mem hlt);have hsn:((ps.take (j+1)).flatMap (cP l q)).foldl (insC fndC) []=(cP l q ps[j]).foldl (insC fndC) O:=by
      rw[hO,List.take_succ_eq_append_getElem hlt,List.flatMap_append,List.foldl_append];simp
     generalize ps[j]=p at *;have sp1:=pI l p;by_cases hrw:(a6 l p).length≤4096
     ·have hre:kz l p=(a6 l p,0):=by unfold kz;rw[if_pos hv,if_pos hrw]
      rw[hre] at sp1;have sp2:=eo l p (by have:=(aI hv).2.1;omega);have sp3:=tq l p;rw[Eh hv] at sp3;have hrl:=sX hv;have sp4:=yK (aG l p) (by rw[cB];have:=(aI hv).2.1;omega) (fun t ht=>by have:=ll (p:=p) (aI hv).1 t ht;omega);have sp5:=oc (dr (aG l p)) (by omega) q.cols.length hq3;have hkp:∀cs∈cw (dr (aG l p)) q.cols.length,sJ l ⟨p,[],cs⟩=0:=fun cs hc=>by
       obtain⟨h1,h2⟩:=gk _ _ cs hc;exact Fj hv hrw h2 (by omega)
      have hfold:(cP l q p).foldl (insC fndC) O=(cw (dr (aG l p)) q.cols.length).foldl (gl l q p) O:=by
       rw[qh,show cP l q p=ansL l q p from if_pos hrw];rfl
      have hchl:(cw (dr (aG l p)) q.cols.length).length≤32768000:=by
       rw[e7];refine Nat.le_trans (Nat.pow_le_pow_left hrl _) ?_;exact Nat.le_trans (Nat.pow_le_pow_right (by omega) hq3) (by decide)
      have hlast:0<p.steps.length→∃t,(aG l p)[(aG l p).length-1]?=some t∧t.id=nY p:=fun hs=>by
       have h1:(aG l p).length-1<(aG l p).length:=by rw[cB];omega
       exact⟨_,List.getElem?_eq_getElem h1,Fk hv hs (List.getElem?_eq_getElem h1)⟩
      have hTl:=cB l p;rw[hfold] at hsn;clear hfold;generalize cw (dr (aG l p)) q.cols.length=ch at *;rw[←aB q.cols] at sp5;generalize aG l p=TS at *;generalize (repL [] (aK l p 0)).lost=r1 at *;generalize (repL [] (aK l p 0)).most=r2 at *;generalize (List.range p.steps.length).map (fun q=>(ab (tabN l p (q+1)):Int)-(mL (q+1) (a6 l p)).length)=r3 at *;have hcl:=kr ch;have hts:=aP TS;have hstl:=aC p.steps;(refine g ?_;intros);refine W.loopR (fun m st=>∃(i:Nat) (P:List Fnd),i≤ch.length∧P=(ch.take i).foldl (gl l q p) O∧m=ch.length-i∧st=(fun O=>⟨[(0,.sl (aa l) false),(4,.int .i64 (k:Nat)),(7,.bp 7 0),(15,.sl (av O) false),(51,.sl (ah ps) false),(52,.int .i64 (ah ps).length),(53,.int .i64 (j:Nat)),(17,.bp 17 0),(20,.sl (aa TS) false),(21,.bp 21 0),(79,.sl (bT ch) false),(80,.int .i64 (bT ch).length),(81,.int .i64 (i:Nat))],[(7,[.rows 3 [q.row] none]),(17,[.rows 2 [p.row] none]),(21,[.rows 4 [[.int .i64 ((a6 l p).length:Nat),.int .i64 r1,.int .i64 r2,.sl (aq .i64 r3) false]] none])],[7,17,21]⟩) P)
       ch.length _ ⟨0,O,by omega,rfl,by omega,rfl⟩ (Ref.le (mp:=[(7,7),(17,17),(21,21)]) (bo:=[]) (gs:=[]) (LeG.mk' rfl rfl rfl (by repeat' (first|exact trivial|exact⟨_,.refl _,rfl⟩|exact⟨_,.norm _,rfl⟩|apply And.intro)) (.ci 7 (.ci 17 (.ci 21 .nil))) rfl rfl (by rw[hK];rfl))) ?_
      rintro m st ⟨i,P,hi,hP,rfl,rfl⟩;simp only;have hPl:=qi l q p (ch.take i) O;rw[←hP,List.length_take] at hPl;have hpl2:=bE P;refine gT (fun hb=>?_) fun hb=>?_
      ·have hil:i<ch.length:=by omega
       have hcg:=sZ hil;have hk0:=hkp _ (List.getElem_mem hil);have hsn2:(ch.take (i+1)).foldl (gl l q p) O=gl l q p P ch[i]:=by
        rw[hP,List.take_succ_eq_append_getElem hil,List.foldl_append];rfl
       generalize ch[i]=cs at *;have hcsl:=bq cs;have hans:ansB l p q cs=(u6 p cs&&dz (e9 l p cs) q):=rfl;rw[yA] at hans;have sn1:=sY cs p.start;have sn2:=sY cs (nY p);obtain⟨he1,he2,he3⟩:=EL (q:=q) hk0;have spE:=yj l ⟨p,[],cs⟩;have spC:=qn he2 hqr (by omega) (by omega);rw[he1] at spC;generalize nV l ⟨p,[],cs⟩=ev at *;obtain⟨ev,ec⟩:=ev;simp only at spE spC;generalize nY p=lt at *;have hst:gl l q p P cs=if ansB l p q cs=true then insC fndC P (mkF l p cs) else P:=rfl
       rw[hst] at hsn2;clear hst;refine gGo ?_;refine al (by simpa using hcg) ?_;(conv=>whnf);refine gGs ?_;refine W.cut (fun z=>ansB l p q cs=dz (e9 l p cs) q∧z=⟨[(0,.sl (aa l) false),(4,.int .i64 (k:Nat)),(7,.bp 7 0),(15,.sl (av P) false),(51,.sl (ah ps) false),(52,.int .i64 (ah ps).length),(53,.int .i64 (j:Nat)),(17,.bp 17 0),(20,.sl (aa TS) false),(21,.bp 21 0),(79,.sl (bT ch) false),(80,.int .i64 (bT ch).length),(81,.int .i64 (i:Nat)),(24,.sl (ap cs) false)],[(7,[.rows 3 [q.row] none]),(17,[.rows 2 [p.row] none]),(21,[.rows 4 [[.int .i64 ((a6 l p).length:Nat),.int .i64 r1,.int .i64 r2,.sl (aq .i64 r3) false]] none])],[7,17,21]⟩) ?_ ?_
       ·by_cases hs0:p.steps.length=0
        ·rw[decide_eq_true hs0,Bool.true_or,Bool.true_and] at hans;refine gGo ?_;intros;exact⟨_,⟨hans,rfl⟩,gY⟩
        rw[decide_eq_false hs0,Bool.false_or] at hans;obtain⟨t,ht1,ht2⟩:=hlast (by omega);have htg:(aa TS)[TS.length-1]?=some t.row:=by
         obtain⟨h1,h2⟩:=List.getElem?_eq_some_iff.1 ht1;rw[bi h1,h2]
        rw[←ht2] at sn2 hans;cases hn1:cs.any (isT p.start) with
        |false =>
         rw[hn1] at sn1 hans;rw[Bool.false_and,Bool.false_and] at hans;refine gGo ?_;intros;(refine gPC (sn1) ?_;conv=>whnf);refine gGo ?_;exact gW ⟨i+1,P,by omega,by rw[hsn2,hans,if_neg (by decide)],rfl,rfl⟩
        |true =>
         rw[hn1] at sn1 hans;rw[Bool.true_and] at hans;refine gGo ?_;intros;(refine gPC (sn1) ?_;conv=>whnf);refine gGo ?_;intros;refine al (r:=t.row) (by rw[show(((aa TS).length:Int)-1).toNat=TS.length-1 by omega];exact htg) ?_;(conv=>whnf);refine gGo ?_;cases hn2:cs.any (isT t.id) with
         |false =>
          rw[hn2] at sn2 hans;rw[Bool.false_and] at hans;refine g ?_;exact gW ⟨i+1,P,by omega,by rw[hsn2,hans,if_neg (by decide)],rfl,rfl⟩
         |true =>
          rw[hn2] at sn2 hans;rw[Bool.true_and] at hans;refine g ?_;exact⟨_,⟨hans,rfl⟩,gY⟩
       clear hans;rintro z ⟨hans,rfl⟩;cases hcb:dz (e9 l p cs) q with
       |false =>
        rw[hcb] at spC hans;refine g ?_;exact gW ⟨i+1,P,by omega,by rw[hsn2,hans,if_neg (by decide)],rfl,rfl⟩
       |true =>
        rw[hcb] at spC hans;rw[hans,if_pos rfl] at hsn2;refine gGo ?_;(refine gPC (spE) ?_;conv=>whnf);refine gGo ?_;(refine gPC (spC) ?_;conv=>whnf);refine gGs ?_;refine gD rfl ?_;refine gF ?_;(conv=>whnf);refine gA ?_;(refine gE env hN (by kernel_rfl) ?_;conv=>whnf);refine gGs ?_;refine gA ?_;(refine gE env hN (by kernel_rfl) ?_;conv=>whnf);refine gGs ?_;intros;have hins:insC fndC P (mkF l p cs)=P.take (plcC fndC P (mkF l p cs) P.length)++mkF l p cs::P.drop (plcC fndC P (mkF l p cs) P.length):=rfl;rw[hins] at hsn2;refine W.cut (fun z=>∃a:Nat,a≤P.length∧plcC fndC P (mkF l p cs) P.length=a∧z=⟨[(0,.sl (aa l) false),(4,.int .i64 (k:Nat)),(7,.bp 7 0),(15,.sl (av P) false),(51,.sl (ah ps) false),(52,.int .i64 (ah ps).length),(53,.int .i64 (j:Nat)),(17,.bp 17 0),(20,.sl (aa TS) false),(21,.bp 21 0),(79,.sl (bT ch) false),(80,.int .i64 (bT ch).length),(81,.int .i64 (i:Nat)),(28,.bp 28 0),(29,.int .i64 (a:Nat))],[(7,[.rows 3 [q.row] none]),(17,[.rows 2 [p.row] none]),(21,[.rows 4 [[.int .i64 ((a6 l p).length:Nat),.int .i64 r1,.int .i64 r2,.sl (aq .i64 r3) false]] none]),(28,[.rows 5 [Fnd.row (mkF l p cs)] none])],[7,17,21,28]⟩) ?_ ?_
        ·refine gGo ?_;refine W.loopR (fun m st=>∃a:Nat,a≤P.length∧plcC fndC P (mkF l p cs) P.length=plcC fndC P (mkF l p cs) a∧m=a∧st=⟨[(0,.sl (aa l) false),(4,.int .i64 (k:Nat)),(7,.bp 7 0),(15,.sl (av P) false),(51,.sl (ah ps) false),(52,.int .i64 (ah ps).length),(53,.int .i64 (j:Nat)),(17,.bp 17 0),(20,.sl (aa TS) false),(21,.bp 21 0),(79,.sl (bT ch) false),(80,.int .i64 (bT ch).length),(81,.int .i64 (i:Nat)),(28,.bp 28 0),(29,.int .i64 (a:Nat))],[(7,[.rows 3 [q.row] none]),(17,[.rows 2 [p.row] none]),(21,[.rows 4 [[.int .i64 ((a6 l p).length:Nat),.int .i64 r1,.int .i64 r2,.sl (aq .i64 r3) false]] none]),(28,[.rows 5 [Fnd.row (mkF l p cs)] none])],[7,17,21,28]⟩)
          P.length _ ⟨P.length,by omega,rfl,rfl,rfl⟩ (Ref.le (mp:=[(7,7),(17,17),(21,21),(28,28)]) (bo:=[]) (gs:=[]) (LeG.mk' rfl rfl rfl (by rw[←hpl2];exact(by repeat' (first|exact trivial|exact⟨_,.refl _,rfl⟩|apply And.intro))) (.ci 7 (.ci 17 (.ci 21 (.cons 28 (b1:=.rows 5 [Fnd.row (mkF l p cs)] none) rfl rfl (.rows _ _ _ ⟨⟨⟨.refl _,rfl⟩,⟨.refl _,rfl⟩,⟨.norm _,rfl⟩,⟨.refl _,rfl⟩,⟨.refl _,rfl⟩,trivial⟩,trivial⟩) rfl .nil)))) rfl rfl (by rw[hK];rfl))) ?_
         rintro a st ⟨_,ha,hpe,rfl,rfl⟩;cases a with
         |zero =>
          refine gGo ?_;exact⟨_,⟨0,by omega,hpe,rfl⟩,gY⟩
         |succ b =>
          have hb1:b<P.length:=by omega
          have hbg:=iU hb1;have hst:plcC fndC P (mkF l p cs) (b+1)=if fndC (mkF l p cs) P[b]<0 then plcC fndC P (mkF l p cs) b else b+1:=by
           rw[plcC,List.getElem?_eq_getElem hb1]
          have spK:=At (mkF l p cs) P[b];generalize P[b]=y at *;refine gGo ?_;refine al (r:=y.row) (by rw[show(((b+1:Nat):Int)-1).toNat=b by omega];exact hbg) ?_;(conv=>whnf);refine g ?_;by_cases hc:fndC (mkF l p cs) y<0
          ·rw[if_pos hc] at hst;refine gGo ?_;refine⟨_,_,?_,⟨b,by omega,by rw[hpe,hst],rfl,rfl⟩,Ref.le (mp:=[(7,7),(17,17),(21,21),(28,28)]) (bo:=[]) (gs:=[]) (LeG.mk' rfl rfl rfl (by rw[show(((b+1:Nat):Int)-1)=(b:Nat) by omega];exact(by repeat' (first|exact trivial|exact⟨_,.refl _,rfl⟩|apply And.intro))) (.ci 7 (.ci 17 (.ci 21 (.ci 28 .nil)))) rfl rfl (by rw[hK];rfl))⟩;omega
          ·rw[if_neg hc] at hst;refine gGo ?_;exact⟨_,⟨b+1,by omega,by rw[hpe,hst],rfl⟩,gY⟩
        rintro z ⟨a,ha,hpe,rfl⟩;rw[hpe] at hsn2;have hs1:List.drop (Int.toNat 0) (List.take (((a:Nat):Int)).toNat (av P))=av (P.take (a)):=by
         rw[Int.toNat_natCast];unfold av;rw[←List.map_take];rfl
        have hs2:List.drop (((a:Nat):Int)).toNat (List.take (((av P).length:Nat):Int).toNat (av P))=av (P.drop (a)):=by
         rw[Int.toNat_natCast,Int.toNat_natCast,List.take_length];unfold av;rw[←List.map_drop]
        have hAl:(P.take (a)).length=a:=by rw[List.length_take];omega
        have hBl:(P.drop (a)).length=P.length-(a):=by rw[List.length_drop]
        refine gGo ?_;refine And.intro (iG _) ?_;rw[hs1];generalize P.take (a)=A at *;generalize hB:P.drop (a)=B at *;have hA2:=bE A;have hB2:=bE B;(conv=>whnf);refine gGo ?_;refine⟨iG _,bc (n:=(av A).length) (b:=88) (by omega) (by omega),?_⟩;refine Or.inl ?_;(conv=>whnf);refine gGo ?_;refine⟨⟨ao rfl au,rfl⟩,bc (n:=(av A).length+1) (b:=88) (by omega) (by omega),.inl ⟨rfl,rfl,?_⟩⟩;(conv=>whnf);refine gGo ?_;refine And.intro (iG _) ?_;rw[hs2];(conv=>whnf);refine gGo ?_;refine⟨⟨iG _,by simp⟩,bc (n:=(av A).length+1+(av B).length) (b:=88) (by omega) (by omega),.inl ⟨rfl,rfl,?_⟩⟩;(conv=>whnf);refine gGo ?_;have hrn:((av A++[Fnd.row (mkF l p cs)])++av B)=av (A++mkF l p cs::B):=by simp[av]
        refine⟨_,_,?_,⟨i+1,A++mkF l p cs::B,by omega,hsn2.symm,rfl,rfl⟩,Ref.le (mp:=[(7,7),(17,17),(21,21)]) (bo:=[144]) (gs:=[]) (LeG.mk' rfl rfl rfl (by rw[←hrn];repeat' (first|exact trivial|exact⟨_,.refl _,rfl⟩|exact⟨_,Lent.whole rfl rfl (by simp;omega) rfl (by first|exact .inl rfl|exact .inr rfl),rfl⟩|apply And.intro)) (.ci 7 (.ci 17 (.ci 21 .nil))) rfl rfl (by rw[hK];rfl))⟩;omega
      ·have hie:i=ch.length:=by omega
       subst hie;rw[List.take_length] at hP;refine gGo ?_;exact gW ⟨j+1,P,by omega,by rw[hsn,hP],rfl,rfl⟩
     ·have hre:kz l p=([],3):=by unfold kz;rw[if_pos hv,if_neg hrw]
      rw[hre] at sp1;rw[show cP l q p=[] from if_neg hrw,List.foldl_nil] at hsn;refine g ?_;exact gW ⟨j+1,O,by omega,hsn.symm,rfl,rfl⟩
    ·have hje:j=ps.length:=by omega
     subst hje;rw[List.take_length,lS ln] at hO;rw[←hO];have hs:List.drop (Int.toNat 0) (List.take (min ((k:Nat):Int) (((av O).length:Nat):Int)).toNat (av O))=av (O.take k):=by
      rw[show(min ((k:Nat):Int) (((av O).length:Nat):Int)).toNat=min k (av O).length by omega];unfold av;rw[show Int.toNat 0=0 from rfl,List.drop_zero,List.map_take,List.length_map];by_cases h:k≤O.length
      ·rw[Nat.min_eq_left h]
      ·rw[Nat.min_eq_right (by omega),List.take_of_length_le (by rw[List.length_map];omega),List.take_of_length_le (by rw[List.length_map];omega)]
     refine gGo ?_;intros;refine⟨⟨by omega,(show(0:Int)≤min (k:Int) ((av O).length:Int) by omega),(show min (k:Int) ((av O).length:Int)≤(av O).length by omega)⟩,iG _,?_⟩;(conv=>whnf);refine gGo ?_;(refine gM ?_;conv=>whnf);exact ret0 rfl (congrArg (fun r=>V.tup [.sl r false,.int .i64 0]) hs) rfl
   ·rw[if_neg he];refine gEn env Tryz.func21 fun Γ hN hK hML=>?_;exact gR
  ·rw[if_neg hq];refine gEn env Tryz.func21 fun Γ hN hK hML=>?_;exact gR
 ·rw[if_neg hk];by_cases h0:k<0
  ·refine gEn env Tryz.func21 fun Γ hN hK hML=>?_;exact gR
  ·refine gEn env Tryz.func21 fun Γ hN hK hML=>?_;exact gR
end Go.Sx.Sp
