/- Paths in order, all paths as the document tells them, and the order of routes. -/
import Derived.Test.YthlokmbefpjmgaaGreatDoorRtThree
import Derived.Test.YthlokmbefpjmgaaGreatDoorSxFive
import Derived.Test.YthlokmbefpjmgaaGreatDoorJSix
import Derived.Test.YthlokmbefpjmgaaGreatDoorJThree
import Derived.Test.YthlokmbefpjmgaaGreatDoorSxFour
set_option linter.unusedVariables false
set_option linter.unusedSimpArgs false
set_option maxHeartbeats 32000000
namespace Go.Sx.Sp
open Go Go.Sx Go.Proofs Go.Sort
attribute [local irreducible] aO famL
theorem fU{l:List Pth}{i:Nat}(h:i<l.length):(ah l)[i]?=some l[i].row:=by simp[ah,h]
theorem dE(l:List Pth):bA (ah l) 2:=by
 unfold bA ah;intro r hr;obtain⟨c,_,rfl⟩:=List.mem_map.1 hr;rfl
theorem nO(a b:Pth):Spec Tryz.prog 79 [.agg a.row,.agg b.row] [] (.int .i64 (ordC a b)) []:=Spec.ofQuiet (lc a b) fun u hu=>by
 simp at hu;rcases hu with rfl|rfl<;>simp[V.sites,a7,Pth.row]
theorem Ci{α:Type}{c:α→α→Int}{l:List α}{x:α}(h:plcC c l x l.length=0):hasC c l x=false:=by unfold hasC;rw[h]
theorem Cj{α:Type}{c:α→α→Int}{l:List α}{x y:α}{q:Nat}(h:plcC c l x l.length=q+1)(hy:l[q]?=some y):hasC c l x=decide (c x y=0):=by unfold hasC;rw[h];simp only[hy]
theorem km(l:List Pth)(p:Pth)(hl:l.length≤1000000000):Spec Tryz.prog 37 [.sl (ah l) false,.agg p.row] [] (.sl (ah (putZ ordC l p)) false) []:=by
 have hpl:=ba l;have hple:=nE ordC l p l.length;refine gEn env Tryz.func37 fun Γ hN hK hML=>?_;refine gA ?_;(refine gE env hN (by kernel_rfl) ?_;conv=>whnf);refine gGs ?_;refine W.leG (mp:=[]) (bo:=[3]) (st':=⟨[(0,.sl (ah l) false),(3,.ro p.row 0)],[],[]⟩)
  (LeG.mk' rfl rfl rfl ⟨⟨_,.refl _,rfl⟩,⟨_,.bp 3 0 2 p.row none rfl rfl (by simp[Pth.row]) (.inr rfl),rfl⟩,trivial⟩ .nil rfl rfl (by rw[hK];rfl)) ?_
 refine gA ?_;(refine gE env hN (by kernel_rfl) ?_;conv=>whnf);refine gGs ?_;intros;refine W.cut (fun z=>z=⟨[(0,.sl (ah l) false),(3,.ro p.row 0),(5,.int .i64 (plcC ordC l p l.length:Nat))],[],[]⟩) ?_ ?_
 ·refine gGo ?_;refine W.loopG (fun m st=>∃i:Nat,i≤l.length∧plcC ordC l p l.length=plcC ordC l p i∧m=i∧st=⟨[(0,.sl (ah l) false),(3,.ro p.row 0),(5,.int .i64 (i:Nat))],[],[]⟩)
   l.length _ ⟨l.length,by omega,rfl,rfl,rfl⟩ ⟨[],[],[],LeG.mk' rfl rfl rfl (by rw[←hpl];exact(by repeat' (first|exact trivial|exact⟨_,.refl _,rfl⟩|apply And.intro))) .nil rfl rfl (by rw[hK];rfl)⟩ ?_
  rintro i st ⟨_,hi,hpe,rfl,rfl⟩;cases i with
  |zero =>
   have h0:plcC ordC l p 0=0:=rfl;rw[hpe,h0];refine gGo ?_;exact⟨_,rfl,.le (mp:=[]) (bo:=[]) (LeG.mq .nil)⟩
  |succ q =>
   have hq:q<l.length:=by omega
   have hg:=fU hq;have hst:plcC ordC l p (q+1)=if ordC p l[q]<0 then plcC ordC l p q else q+1:=by
    rw[plcC,List.getElem?_eq_getElem hq]
   have spC:=nO p l[q];generalize l[q]=y at *;refine gGo ?_;refine al (r:=y.row) (by rw[show(((q+1:Nat):Int)-1).toNat=q by omega];exact hg) ?_;(conv=>whnf);refine g ?_;by_cases hc:ordC p y<0
   ·rw[if_pos hc] at hst;refine gGo ?_;refine⟨q,_,by omega,⟨q,by omega,by rw[hpe,hst],rfl,rfl⟩,[],[],[],LeG.mk' rfl rfl rfl (by rw[show(((q+1:Nat):Int)-1)=(q:Nat) by omega];exact(by repeat' (first|exact trivial|exact⟨_,.refl _,rfl⟩|apply And.intro))) .nil rfl rfl (by rw[hK];rfl)⟩
   ·rw[if_neg hc] at hst;rw[hpe,hst];refine gGo ?_;exact⟨_,rfl,.le (mp:=[]) (bo:=[]) (LeG.mq .nil)⟩
 ·rintro z rfl;have hins:insC ordC l p=l.take (plcC ordC l p l.length)++p::l.drop (plcC ordC l p l.length):=rfl;unfold putZ;rw[hins];cases hplq:plcC ordC l p l.length with
  |zero =>
   rw[Ci hplq,if_neg (by decide)];have hs1:List.drop (Int.toNat 0) (List.take (((0:Nat):Int)).toNat (ah l))=ah (l.take (0)):=by
    rw[Int.toNat_natCast];unfold ah;rw[←List.map_take];rfl
   have hs2:List.drop (((0:Nat):Int)).toNat (List.take (((ah l).length:Nat):Int).toNat (ah l))=ah (l.drop (0)):=by
    rw[Int.toNat_natCast,Int.toNat_natCast,List.take_length];unfold ah;rw[←List.map_drop]
   have hAl:(l.take (0)).length=0:=by rw[List.length_take];omega
   have hBl:(l.drop (0)).length=l.length-(0):=by rw[List.length_drop]
   refine gGo ?_;refine And.intro (dE _) ?_;rw[hs1];generalize l.take (0)=A at *;generalize hB:l.drop (0)=B at *;have hA2:=ba A;have hB2:=ba B;(conv=>whnf);refine gGo ?_;refine⟨dE _,fitN (n:=(ah A).length) (b:=32) (by omega) (by omega),?_⟩;refine Or.inl ?_;(conv=>whnf);refine gGo ?_;refine⟨⟨ao rfl au,rfl⟩,fitN (n:=(ah A).length+1) (b:=32) (by omega) (by omega),.inl ⟨rfl,rfl,?_⟩⟩;(conv=>whnf);refine gGo ?_;refine And.intro (dE _) ?_;rw[hs2];(conv=>whnf);refine gGo ?_;refine⟨⟨dE _,by simp⟩,fitN (n:=(ah A).length+1+(ah B).length) (b:=32) (by omega) (by omega),.inl ⟨rfl,rfl,?_⟩⟩;(conv=>whnf);refine gGo ?_;have hrn:((ah A++[p.row])++ah B)=ah (A++p::B):=by simp[ah]
   refine W.leG (mp:=[]) (bo:=[38]) (st':=⟨[(4,.sl (ah (A++p::B)) false)],[],[]⟩)
    (LeG.mk' rfl rfl rfl (by rw[←hrn];exact⟨⟨_,Lent.whole rfl rfl (by simp;omega) rfl (by first|exact .inl rfl|exact .inr rfl),rfl⟩,trivial⟩) .nil rfl rfl (by rw[hK];rfl)) ?_
   (refine gM ?_;conv=>whnf);exact ret0 rfl rfl rfl
  |succ q =>
   rw[hplq] at hple;have hq:q<l.length:=by omega
   have hg:=fU hq;have hhas:=Cj hplq (List.getElem?_eq_getElem hq);have spC:=nO p l[q];generalize l[q]=y at *;refine gA ?_;refine gA ?_;(refine gE env hN (by kernel_rfl) ?_;conv=>whnf);refine gGs ?_;refine al (r:=y.row) (by rw[show(((q+1:Nat):Int)-1).toNat=q by omega];exact hg) ?_;(conv=>whnf);refine gGs ?_;refine g ?_;refine gGs ?_;by_cases hc:ordC p y=0
   ·rw[decide_eq_true hc] at hhas;rw[hhas,if_pos rfl];exact gR
   ·rw[decide_eq_false hc] at hhas;rw[hhas,if_neg (by decide)];refine gGs ?_;refine gD rfl ?_;refine gF ?_;(conv=>whnf);have hs1:List.drop (Int.toNat 0) (List.take ((((q+1):Nat):Int)).toNat (ah l))=ah (l.take ((q+1))):=by
     rw[Int.toNat_natCast];unfold ah;rw[←List.map_take];rfl
    have hs2:List.drop ((((q+1):Nat):Int)).toNat (List.take (((ah l).length:Nat):Int).toNat (ah l))=ah (l.drop ((q+1))):=by
     rw[Int.toNat_natCast,Int.toNat_natCast,List.take_length];unfold ah;rw[←List.map_drop]
    have hAl:(l.take ((q+1))).length=(q+1):=by rw[List.length_take];omega
    have hBl:(l.drop ((q+1))).length=l.length-((q+1)):=by rw[List.length_drop]
    refine gGo ?_;refine And.intro (dE _) ?_;rw[hs1];generalize l.take ((q+1))=A at *;generalize hB:l.drop ((q+1))=B at *;have hA2:=ba A;have hB2:=ba B;(conv=>whnf);refine gGo ?_;refine⟨dE _,fitN (n:=(ah A).length) (b:=32) (by omega) (by omega),?_⟩;refine Or.inl ?_;(conv=>whnf);refine gGo ?_;refine⟨⟨ao rfl au,rfl⟩,fitN (n:=(ah A).length+1) (b:=32) (by omega) (by omega),.inl ⟨rfl,rfl,?_⟩⟩;(conv=>whnf);refine gGo ?_;refine And.intro (dE _) ?_;rw[hs2];(conv=>whnf);refine gGo ?_;refine⟨⟨dE _,by simp⟩,fitN (n:=(ah A).length+1+(ah B).length) (b:=32) (by omega) (by omega),.inl ⟨rfl,rfl,?_⟩⟩;(conv=>whnf);refine gGo ?_;have hrn:((ah A++[p.row])++ah B)=ah (A++p::B):=by simp[ah]
    refine W.leG (mp:=[]) (bo:=[38]) (st':=⟨[(4,.sl (ah (A++p::B)) false)],[],[]⟩)
     (LeG.mk' rfl rfl rfl (by rw[←hrn];exact⟨⟨_,Lent.whole rfl rfl (by simp;omega) rfl (by first|exact .inl rfl|exact .inr rfl),rfl⟩,trivial⟩) .nil rfl rfl (by rw[hK];rfl)) ?_
    (refine gM ?_;conv=>whnf);exact ret0 rfl rfl rfl
theorem tA(a b:Pth):Spec Tryz.prog 61 [.agg a.row,.agg b.row] [] (.bool (decide (a=b))) []:=by
 have hla:=aC a.steps;have hlb:=aC b.steps;have hiff:a=b↔a.start=b.start∧a.steps=b.steps:=by cases a;cases b;simp
 refine gEn env Tryz.func61 fun Γ hN hK hML=>?_;refine gA ?_;(refine gE env hN (by kernel_rfl) ?_;conv=>whnf);refine gGs ?_;refine W.leG (mp:=[]) (bo:=[2,3]) (st':=⟨[(2,.ro a.row 0),(3,.ro b.row 0)],[],[]⟩)
  (LeG.mk' rfl rfl rfl ⟨⟨_,.bp 2 0 2 a.row none rfl rfl (by simp[Pth.row]) (.inr rfl),rfl⟩,⟨_,.bp 3 0 2 b.row none rfl rfl (by simp[Pth.row]) (.inr rfl),rfl⟩,trivial⟩ .nil rfl rfl (by rw[hK];rfl)) ?_
 by_cases h1:a.start=b.start
 ·by_cases h2:a.steps.length=b.steps.length
  ·refine gGo ?_;intros;refine W.loopG (fun m st=>∃k:Nat,k≤a.steps.length∧a.steps.take k=b.steps.take k∧m=a.steps.length-k∧st=⟨[(3,.ro b.row 0),(22,.sl (ae a.steps) false),(23,.int .i64 (ae a.steps).length),(24,.int .i64 (k:Nat))],[],[]⟩)
    a.steps.length _ ⟨0,by omega,by simp,by omega,rfl⟩ gX ?_
   rintro m st ⟨k,hk,htk,rfl,rfl⟩;refine gT (fun hb=>?_) fun hb=>?_
   ·have hlt:k<a.steps.length:=by omega
    have hlt2:k<b.steps.length:=by omega
    have hg1:=bf hlt;have hg2:=bf hlt2;have htk2:a.steps[k]=b.steps[k]→a.steps.take (k+1)=b.steps.take (k+1):=Br htk hlt hlt2;have hneq:a.steps[k]≠b.steps[k]→¬(a=b):=fun h1 h2=>by subst h2;exact h1 rfl
    generalize a.steps[k]=x at *;generalize b.steps[k]=y at *;refine g ?_;refine⟨_,_,_,x3 rfl y x rfl rfl (by kernel_rfl),?_⟩;by_cases e6:y=x
    ·rw[decide_eq_true e6];(conv=>whnf);refine gGo ?_;refine⟨a.steps.length-(k+1),_,by omega,⟨k+1,by omega,htk2 e6.symm,rfl,rfl⟩,[],[6],[],LeG.mq .nil⟩
    ·rw[decide_eq_false e6,decide_eq_false (hneq fun e=>e6 e.symm)];(conv=>whnf);exact gR
   ·have hke:k=a.steps.length:=by omega
    have huu:a=b:=hiff.2 ⟨h1,by rw[hke,List.take_length,h2,List.take_length] at htk;exact htk⟩;rw[decide_eq_true huu];exact gR
  ·rw[decide_eq_false (fun h=>h2 (by rw[h]))];exact gR
 ·rw[decide_eq_false (fun h=>h1 (by rw[h]))];exact gR
theorem zS(l:List Table)(E:List (List Int))(dst:Int)(s:WS)(out:List Pth):l9 l E dst 0 s out=putO ordC (isPR dst s) out:=rfl
theorem zT(l:List Table)(E:List (List Int))(dst:Int)(k:Nat)(s:WS)(out:List Pth):l9 l E dst (k+1) s out=if finR dst s=true∨1024<(putO ordC (isPR dst s) out).length then putO ordC (isPR dst s) out else(nxR l E s).foldl (fun o t=>l9 l E dst k t o) (putO ordC (isPR dst s) out):=rfl
theorem Ck(l:List Table)(E:List (List Int))(dst:Int)(k:Nat)(s:WS)(out:List Pth):(l9 l E dst k s out).length≤out.length+(E.length+1) ^ k:=uD E.length (E4 l E) k s out
def nP(l:List Table)(E:List (List Int))(dst:Int)(k:Nat)(s:WS)(o:List Pth)(r:List Int):List Pth:=match nxC l s r with
 |none=>o
 |some t=>l9 l E dst k t o
theorem zU(l:List Table)(E:List (List Int))(dst:Int)(k:Nat)(s:WS)(R:List (List Int)):∀o,(R.filterMap (nxC l s)).foldl (fun o t=>l9 l E dst k t o) o=R.foldl (nP l E dst k s) o:=by
 induction R with
 |nil=>intro o;rfl
 |cons r R ih =>
  intro o;rw[List.filterMap_cons,List.foldl_cons];unfold nP;cases nxC l s r with
  |none=>exact ih o
  |some t=>rw[List.foldl_cons];exact ih _
theorem Cl(l:List Table)(E:List (List Int))(dst:Int)(k:Nat)(s:WS)(o:List Pth)(r:List Int):(nP l E dst k s o r).length≤o.length+(E.length+1) ^ k:=by
 unfold nP;split
 ·omega
 ·exact Ck l E dst k _ o
theorem x9(l:List Table)(E:List (List Int))(dst:Int)(steps:Nat)(h11:∀r∈E,ky r)(hst:steps≤4)(hE:E.length≤100000) :
  ∀(k:Nat) (p:Pth) (at_:Int) (out:List Pth),p.steps.length+k=steps→out.length+(E.length+1) ^ k≤1000000000 →
  Spec Tryz.prog 38 [.sl (aa l) false,.sl (aA E) false,.agg p.row,.int .i64 at_,.int .i64 dst,.int .i64 (steps:Nat),.sl (ah out) false] [] (.sl (ah (l9 l E dst k ⟨p,at_⟩ out)) false) []:=by
 intro k
 induction k with
 |zero =>
  intro p at_ out hk hb;rw[zS];rw[Nat.pow_zero] at hb;have spP:=km out p (by omega);have hsl0:=aC p.steps;refine gEn env Tryz.func38 fun Γ hN hK hML=>?_;refine gA ?_;(refine gE env hN (by kernel_rfl) ?_;conv=>whnf);refine gGs ?_;refine W.leG (mp:=[]) (bo:=[9]) (st':=⟨[(0,.sl (aa l) false),(1,.sl (aA E) false),(3,.int .i64 at_),(4,.int .i64 dst),(5,.int .i64 (steps:Nat)),(6,.sl (ah (out)) false),(9,.ro p.row 0)],[],[]⟩)
   (LeG.mk' rfl rfl rfl (by repeat' (first|exact trivial|exact⟨_,.refl _,rfl⟩|exact⟨_,.bp 9 0 2 p.row none rfl rfl (by simp[Pth.row]) (.inr rfl),rfl⟩|apply And.intro)) .nil rfl rfl (by rw[hK];rfl)) ?_
  refine W.cut (fun z=>z=⟨[(0,.sl (aa l) false),(1,.sl (aA E) false),(3,.int .i64 at_),(4,.int .i64 dst),(5,.int .i64 (steps:Nat)),(6,.sl (ah (putO ordC (isPR dst ⟨p,at_⟩) out)) false),(9,.ro p.row 0)],[],[]⟩) ?_ ?_
  ·by_cases h0:0<p.steps.length
   ·by_cases hd:dst<0
    ·by_cases hs:p.start<at_
     ·rw[show isPR dst ⟨p,at_⟩=some p from if_pos ⟨h0,.inl ⟨hd,hs⟩⟩];(refine g ?_;intros);exact⟨_,rfl,.le (mp:=[]) (bo:=[]) (LeG.mq .nil)⟩
     ·by_cases he:at_=dst
      ·rw[show isPR dst ⟨p,at_⟩=some p from if_pos ⟨h0,.inr he⟩];(refine g ?_;intros);exact⟨_,rfl,.le (mp:=[]) (bo:=[]) (LeG.mq .nil)⟩
      ·rw[show isPR dst ⟨p,at_⟩=none from if_neg (fun h=>h.2.elim (fun h=>hs h.2) he)];refine gGo ?_;intros;exact⟨_,rfl,.le (mp:=[]) (bo:=[]) (LeG.mq .nil)⟩
    ·by_cases he:at_=dst
     ·rw[show isPR dst ⟨p,at_⟩=some p from if_pos ⟨h0,.inr he⟩];(refine g ?_;intros);exact⟨_,rfl,.le (mp:=[]) (bo:=[]) (LeG.mq .nil)⟩
     ·rw[show isPR dst ⟨p,at_⟩=none from if_neg (fun h=>h.2.elim (fun h=>hd h.1) he)];refine gGo ?_;intros;exact⟨_,rfl,.le (mp:=[]) (bo:=[]) (LeG.mq .nil)⟩
   ·rw[show isPR dst ⟨p,at_⟩=none from if_neg (fun h=>h0 h.1)];refine gGo ?_;intros;exact⟨_,rfl,.le (mp:=[]) (bo:=[]) (LeG.mq .nil)⟩
  ·rintro z rfl;generalize putO ordC (isPR dst ⟨p,at_⟩) out=O1 at *;have hol:=ba O1;exact gR
 |succ k ih =>
  intro p at_ out hk hb;rw[zT];have hp1:1≤(E.length+1) ^ k:=Nat.one_le_pow _ _ (by omega);have hp2:(E.length+1) ^ (k+1)=E.length*(E.length+1) ^ k+(E.length+1) ^ k:=by rw[Nat.pow_succ,Nat.mul_comm,Nat.add_mul,Nat.one_mul]
  have spP:=km out p (by omega);have hsl0:=aC p.steps;refine gEn env Tryz.func38 fun Γ hN hK hML=>?_;refine gA ?_;(refine gE env hN (by kernel_rfl) ?_;conv=>whnf);refine gGs ?_;refine W.leG (mp:=[]) (bo:=[9]) (st':=⟨[(0,.sl (aa l) false),(1,.sl (aA E) false),(3,.int .i64 at_),(4,.int .i64 dst),(5,.int .i64 (steps:Nat)),(6,.sl (ah (out)) false),(9,.ro p.row 0)],[],[]⟩)
   (LeG.mk' rfl rfl rfl (by repeat' (first|exact trivial|exact⟨_,.refl _,rfl⟩|exact⟨_,.bp 9 0 2 p.row none rfl rfl (by simp[Pth.row]) (.inr rfl),rfl⟩|apply And.intro)) .nil rfl rfl (by rw[hK];rfl)) ?_
  refine W.cut (fun z=>z=⟨[(0,.sl (aa l) false),(1,.sl (aA E) false),(3,.int .i64 at_),(4,.int .i64 dst),(5,.int .i64 (steps:Nat)),(6,.sl (ah (putO ordC (isPR dst ⟨p,at_⟩) out)) false),(9,.ro p.row 0)],[],[]⟩) ?_ ?_
  ·by_cases h0:0<p.steps.length
   ·by_cases hd:dst<0
    ·by_cases hs:p.start<at_
     ·rw[show isPR dst ⟨p,at_⟩=some p from if_pos ⟨h0,.inl ⟨hd,hs⟩⟩];(refine g ?_;intros);exact⟨_,rfl,.le (mp:=[]) (bo:=[]) (LeG.mq .nil)⟩
     ·by_cases he:at_=dst
      ·rw[show isPR dst ⟨p,at_⟩=some p from if_pos ⟨h0,.inr he⟩];(refine g ?_;intros);exact⟨_,rfl,.le (mp:=[]) (bo:=[]) (LeG.mq .nil)⟩
      ·rw[show isPR dst ⟨p,at_⟩=none from if_neg (fun h=>h.2.elim (fun h=>hs h.2) he)];refine gGo ?_;intros;exact⟨_,rfl,.le (mp:=[]) (bo:=[]) (LeG.mq .nil)⟩
    ·by_cases he:at_=dst
     ·rw[show isPR dst ⟨p,at_⟩=some p from if_pos ⟨h0,.inr he⟩];(refine g ?_;intros);exact⟨_,rfl,.le (mp:=[]) (bo:=[]) (LeG.mq .nil)⟩
     ·rw[show isPR dst ⟨p,at_⟩=none from if_neg (fun h=>h.2.elim (fun h=>hd h.1) he)];refine gGo ?_;intros;exact⟨_,rfl,.le (mp:=[]) (bo:=[]) (LeG.mq .nil)⟩
   ·rw[show isPR dst ⟨p,at_⟩=none from if_neg (fun h=>h0 h.1)];refine gGo ?_;intros;exact⟨_,rfl,.le (mp:=[]) (bo:=[]) (LeG.mq .nil)⟩
  ·rintro z rfl;have hO1:=(lg ordC (isPR dst ⟨p,at_⟩) out).2;generalize putO ordC (isPR dst ⟨p,at_⟩) out=O1 at *;have hol:=ba O1;by_cases he:at_=dst
   ·rw[if_pos (.inl (show finR dst ⟨p,at_⟩=true from decide_eq_true he))];exact gR
   ·by_cases hM:1024<O1.length
    ·rw[if_pos (.inr hM)];exact gR
    ·have hcn:¬(finR dst ⟨p,at_⟩=true∨1024<O1.length):=fun h=>h.elim (fun h=>he (of_decide_eq_true h)) hM;rw[if_neg hcn];have hnx:nxR l E ⟨p,at_⟩=(jq E at_).filterMap (nxC l ⟨p,at_⟩):=rfl;rw[hnx,zU];clear hnx hcn;have spR:=BW E at_ h11 (by omega);have hR11:=EX h11 at_;have hRl:=rK E at_;generalize jq E at_=R at *;have hrl:=eK R;obtain⟨O,hO⟩:∃O:Nat→List Pth,O=fun j=>(R.take j).foldl (nP l E dst k ⟨p,at_⟩) O1:=⟨_,rfl⟩
     have hO0:O 0=O1:=by rw[hO];rfl
     have hOs:∀(j:Nat) (hj:j<R.length),O (j+1)=nP l E dst k ⟨p,at_⟩ (O j) R[j]:=fun j hj=>by
      rw[hO];simp only[List.take_succ_eq_append_getElem hj,List.foldl_append,List.foldl_cons,List.foldl_nil]
     have hOe:R.foldl (nP l E dst k ⟨p,at_⟩) O1=O R.length:=by rw[hO];simp only[List.take_length]
     have hOl:∀j,j≤R.length→(O j).length≤O1.length+j*(E.length+1) ^ k:=fun j=>by
      induction j with
      |zero=>intro _;rw[hO0];simp
      |succ j ihj =>
       intro hj;have h1:=Cl l E dst k ⟨p,at_⟩ (O j) R[j];have h2:=ihj (by omega);rw[hOs j hj,Nat.add_mul,Nat.one_mul];omega
     rw[hOe];clear hO hOe;(refine g ?_;intros);refine W.loopG (fun m st=>∃j:Nat,j≤R.length∧m=R.length-j∧st=⟨[(0,.sl (aa l) false),(1,.sl (aA E) false),(3,.int .i64 at_),(4,.int .i64 dst),(5,.int .i64 (steps:Nat)),(6,.sl (ah (O j)) false),(9,.ro p.row 0),(62,.sl (aA R) false),(63,.int .i64 (aA R).length),(64,.int .i64 (j:Nat))],[],[]⟩)
      R.length _ ⟨0,by omega,by omega,rfl⟩ ⟨[],[],[],LeG.mk' rfl rfl rfl (by rw[hO0];exact(by repeat' (first|exact trivial|exact⟨_,.refl _,rfl⟩|apply And.intro))) .nil rfl rfl (by rw[hK];rfl)⟩ ?_
     rintro m st ⟨j,hj,rfl,rfl⟩;have hOj:=hOl j hj;refine gT (fun hb=>?_) fun hb=>?_
     ·have hlt:j<R.length:=by omega
      have hg:=k7 hlt;have hjk:j*(E.length+1) ^ k+(E.length+1) ^ k≤E.length*(E.length+1) ^ k:=by
       have:(j+1)*(E.length+1) ^ k≤E.length*(E.length+1) ^ k:=Nat.mul_le_mul_right _ (by omega);rw[Nat.add_mul,Nat.one_mul] at this;exact this
      obtain⟨r0,r1,r2,r3,r4,r5,r6,r7,r8,r9,r10,hr⟩:=DM (hR11 _ (List.getElem_mem hlt));have hos:=hOs j hlt;rw[hr] at hg hos;have hwo:∀o,nP l E dst k ⟨p,at_⟩ o [r0,r1,r2,r3,r4,r5,r6,r7,r8,r9,r10]=if((getC l r0 r1).isSome&&(getC l r2 r3).isSome&&!decide (r2∈befT p p.steps.length))=true then l9 l E dst k ⟨⟨p.start,p.steps++[⟨r0,r1,r2,r3⟩]⟩,r2⟩ o else o:=fun o=>by
       unfold nP nxC;show(match(if((getC l r0 r1).isSome&&(getC l r2 r3).isSome&&!decide (r2∈befT p p.steps.length))=true then some (⟨⟨p.start,p.steps++[⟨r0,r1,r2,r3⟩]⟩,r2⟩:WS) else none) with|none=>o|some t=>l9 l E dst k t o)=_;by_cases hq:((getC l r0 r1).isSome&&(getC l r2 r3).isSome&&!decide (r2∈befT p p.steps.length))=true
       ·rw[if_pos hq,if_pos hq]
       ·rw[if_neg hq,if_neg hq]
      rw[hwo] at hos;clear hwo;have sa:=gv l r0 r1;have sb:=gv l r2 r3;have spl:=eE p p.steps.length r2 (Nat.le_refl _) (by omega);have hpm:=mJ p p.steps.length r2;have hsl:=aC p.steps;rw[←hsl] at spl;generalize (getC l r0 r1).isSome=A at *;generalize (getC l r2 r3).isSome=B at *;generalize (getC l r0 r1).getD Column.zero=ca at *;generalize (getC l r2 r3).getD Column.zero=cb at *;cases A with
      |false =>
       rw[if_neg (by simp)] at hos;refine gGo ?_;refine al (by simpa using hg) ?_;(conv=>whnf);refine gGo ?_;(refine gPC (sa) ?_;conv=>whnf);refine gGo ?_;(refine gPC (sb) ?_;conv=>whnf);refine gGo ?_;refine⟨R.length-(j+1),_,by omega,⟨j+1,by omega,rfl,rfl⟩,[],[],[],LeG.mk' rfl rfl rfl (by rw[hos];exact(by repeat' (first|exact trivial|exact⟨_,.refl _,rfl⟩|apply And.intro))) .nil rfl rfl (by rw[hK];rfl)⟩
      |true =>
       cases B with
       |false =>
        rw[if_neg (by simp)] at hos;refine gGo ?_;refine al (by simpa using hg) ?_;(conv=>whnf);refine gGo ?_;(refine gPC (sa) ?_;conv=>whnf);refine gGo ?_;(refine gPC (sb) ?_;conv=>whnf);refine gGo ?_;refine⟨R.length-(j+1),_,by omega,⟨j+1,by omega,rfl,rfl⟩,[],[],[],LeG.mk' rfl rfl rfl (by rw[hos];exact(by repeat' (first|exact trivial|exact⟨_,.refl _,rfl⟩|apply And.intro))) .nil rfl rfl (by rw[hK];rfl)⟩
       |true =>
        by_cases hm:r2∈befT p p.steps.length
        ·rw[if_neg (by simp[hm])] at hos;have hz:0≤cS p (ae p.steps).length r2:=by rw[hsl];exact hpm.2 hm
         refine gGo ?_;refine al (by simpa using hg) ?_;(conv=>whnf);refine gGo ?_;(refine gPC (sa) ?_;conv=>whnf);refine gGo ?_;(refine gPC (sb) ?_;conv=>whnf);refine gGo ?_;intros;(refine gPC (spl) ?_;conv=>whnf);refine gGo ?_;refine⟨R.length-(j+1),_,by omega,⟨j+1,by omega,rfl,rfl⟩,[],[],[],LeG.mk' rfl rfl rfl (by rw[hos];exact(by repeat' (first|exact trivial|exact⟨_,.refl _,rfl⟩|apply And.intro))) .nil rfl rfl (by rw[hK];rfl)⟩
        ·rw[if_pos (by simp[hm])] at hos;have hz:¬0≤cS p (ae p.steps).length r2:=fun h=>hm (hpm.1 (by rw[hsl] at h;exact h));have hsn:ae (p.steps++[⟨r0,r1,r2,r3⟩])=ae p.steps++[[.int .i64 r0,.int .i64 r1,.int .i64 r2,.int .i64 r3]]:=by simp[ae,Stp.row]
         have hsp:=ih ⟨p.start,p.steps++[⟨r0,r1,r2,r3⟩]⟩ r2 (O j) (by simp;omega) (by omega);refine gGo ?_;refine al (by simpa using hg) ?_;(conv=>whnf);refine gGo ?_;(refine gPC (sa) ?_;conv=>whnf);refine gGo ?_;(refine gPC (sb) ?_;conv=>whnf);refine gGo ?_;intros;(refine gPC (spl) ?_;conv=>whnf);refine gGo ?_;refine⟨stpRows_sz _,fitN (n:=(ae p.steps).length) (b:=32) (by omega) (by omega),?_⟩;refine Or.inl ?_;(conv=>whnf);refine gGo ?_;refine⟨⟨ao rfl au,rfl⟩,fitN (n:=(ae p.steps).length+1) (b:=32) (by omega) (by omega),.inl ⟨rfl,rfl,?_⟩⟩;(conv=>whnf);refine gGs ?_;refine W.leG (mp:=[(21,21)]) (bo:=[16,103]) (st':=⟨[(0,.sl (aa l) false),(1,.sl (aA E) false),(3,.int .i64 at_),(4,.int .i64 dst),(5,.int .i64 (steps:Nat)),(6,.sl (ah (O j)) false),(9,.ro p.row 0),(62,.sl (aA R) false),(63,.int .i64 (aA R).length),(64,.int .i64 (j:Nat)),(16,.ro (eV [r0,r1,r2,r3,r4,r5,r6,r7,r8,r9,r10]) 0),(21,.bp 21 0)],[(21,[.rows 2 [(Pth.mk p.start (p.steps++[⟨r0,r1,r2,r3⟩])).row] none])],[21]⟩)
          (LeG.mk' rfl rfl rfl (by repeat' (first|exact trivial|exact⟨_,.refl _,rfl⟩|exact⟨_,.bp 16 0 11 (eV [r0,r1,r2,r3,r4,r5,r6,r7,r8,r9,r10]) none rfl rfl (by simp[eV]) (.inr rfl),rfl⟩|apply And.intro)) (.cons 21 (b1:=.rows 2 [(Pth.mk p.start (p.steps++[⟨r0,r1,r2,r3⟩])).row] none) rfl rfl (.rows _ _ _ ⟨⟨⟨.refl _,rfl⟩,⟨(by show Lent _ _ _ (.sl (ae (p.steps++[⟨r0,r1,r2,r3⟩])) false);rw[hsn];exact Lent.whole rfl rfl (by simp;rfl) rfl (by first|exact .inl rfl|exact .inr rfl)),rfl⟩,trivial⟩,trivial⟩) rfl .nil) rfl rfl (by rw[hK];rfl)) ?_
         refine g ?_;refine⟨R.length-(j+1),_,by omega,⟨j+1,by omega,rfl,rfl⟩,[],[],[],LeG.mk' rfl rfl rfl (by rw[hos];exact(by repeat' (first|exact trivial|exact⟨_,.refl _,rfl⟩|apply And.intro))) .nil rfl rfl (by rw[hK];rfl)⟩
     ·have hje:j=R.length:=by omega
      rw[hje];exact gR
theorem Ef{l:List Table}(h:bO l=true)(t:Table)(ht:t∈l):0≤t.id:=by
 have hv:=fN h t ht;simp only[aR,eg,Bool.and_eq_true,decide_eq_true_eq] at hv;omega
structure Rte where
 p:Pth
 r:Rep
 deriving DecidableEq
def Rte.row(x:Rte):List V:=[.int .i64 x.p.start,.sl (ae x.p.steps) false,.int .i64 x.r.rows,.int .i64 x.r.lost,.int .i64 x.r.most,.sl (aq .i64 x.r.unused) false]
section
attribute [local instance] GQ
end
end Go.Sx.Sp
