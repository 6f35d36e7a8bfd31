/- Plain laws of routes. -/
import Derived.Test.YthlokmbefpjmgaaGreatDoorJOne
import Derived.Test.YthlokmbefpjmgaaGreatDoorSxFive
import Derived.Test.YthlokmbefpjmgaaGreatDoorSxSix
import Derived.Test.YthlokmbefpjmgaaGreatDoorSpOne
import Derived.Test.YthlokmbefpjmgaaGreatDoorJSix
import Derived.Test.YthlokmbefpjmgaaGreatDoorJTwo
import Derived.Test.YthlokmbefpjmgaaGreatDoorSxFour
set_option linter.unusedVariables false
set_option linter.unusedSimpArgs false
set_option maxHeartbeats 8000000
namespace Go.Sx.Sp
open Go Go.Sx Go.Proofs
attribute [local irreducible] aO famL
structure Rf where
 t:Int
 c:Int
 deriving DecidableEq
def Rf.row(r:Rf):List V:=[.int .i64 r.t,.int .i64 r.c]
def ap(l:List Rf):List (List V):=l.map Rf.row
theorem bq(l:List Rf):(ap l).length=l.length:=by simp[ap]
theorem cE{l:List Rf}{i:Nat}(h:i<l.length):(ap l)[i]?=some l[i].row:=by simp[ap,h]
end Go.Sx.Sp
namespace Go.Sx.Sp
open Go Go.Sx Go.Proofs
attribute [local irreducible] aO famL
attribute [local instance] GQ
def cmpJ(a b:Int):Int:=if a<b then -1 else if b<a then 1 else 0
def orL:List Int→Int
 | []=>0
 |x::l=>if x=0 then orL l else x
def jt(a b:Rf):Bool:=decide (a.t<b.t) ||(decide (a.t=b.t)&&decide (a.c<b.c))
def refC(a b:Rf):Int:=if jt a b=true then -1 else if jt b a=true then 1 else 0
def Stp.fr(s:Stp):Rf:=⟨s.ft,s.fc⟩
def Stp.tr(s:Stp):Rf:=⟨s.tt,s.tc⟩
def b8(a b:Stp):Int:=orL [refC a.fr b.fr,refC a.tr b.tr]
def lexC{α:Type}(c:α→α→Int):List α→List α→Int
 | [],[]=>0
 | [],_::_=>-1
 |_::_,[]=>1
 |x::a,y::b=>if c x y=0 then lexC c a b else c x y
def ordC(a b:Pth):Int:=orL [cmpJ a.start b.start,lexC b8 a.steps b.steps]
theorem pL(n:Int):Spec Tryz.prog 110 [.int .i64 n] [] (.bool false) []:=by
 refine gEn env Tryz.func110 fun Γ hN hK hML=>?_;exact gR
theorem ju(a b:Int):Spec Tryz.prog 58 [.int .i64 a,.int .i64 b] [] (.int .i64 (cmpJ a b)) []:=by
 refine gEn env Tryz.func58 fun Γ hN hK hML=>?_;refine gGo ?_;(refine gPC (pL a) ?_;conv=>whnf);refine gGo ?_;(refine gPC (pL b) ?_;conv=>whnf);refine gT (fun hb=>?_) fun hb=>?_
 ·have h:cmpJ a b=-1:=by simp[cmpJ,hb]
  rw[h];exact gR
 refine gT (fun hb=>?_) fun hb=>?_
 ·have h:cmpJ a b=1:=by unfold cmpJ;rw[if_neg (by omega),if_pos (by omega)]
  rw[h];exact gR
 ·have h:cmpJ a b=0:=by unfold cmpJ;rw[if_neg (by omega),if_neg (by omega)]
  rw[h];exact gR
theorem DW{l:List Int}{i:Nat}(hi:i<l.length):orL (l.drop i)=if l[i]=0 then orL (l.drop (i+1)) else l[i]:=by
 rw[List.drop_eq_getElem_cons hi];rfl
theorem nC(l:List Int):Spec Tryz.prog 57 [.sl (aq .i64 l) false] [] (.int .i64 (orL l)) []:=by
 have hl:=bu .i64 l;refine gEn env Tryz.func57 fun Γ hN hK hML=>?_;refine gGo ?_;intros;refine W.leG (mp:=[]) (bo:=[]) (st':=⟨[(3,.int .i64 0),(6,.sl (aq .i64 l) false),(7,.int .i64 (aq .i64 l).length),(8,.int .i64 (0:Nat))],[],[]⟩)
  (LeG.mq .nil) ?_
 refine W.loopG (fun m st=>∃i:Nat,i≤l.length∧orL (l.drop i)=orL l∧m=l.length-i∧st=⟨[(3,.int .i64 0),(6,.sl (aq .i64 l) false),(7,.int .i64 (aq .i64 l).length),(8,.int .i64 (i:Nat))],[],[]⟩)
  l.length _ ⟨0,by omega,rfl,by omega,rfl⟩ gX ?_
 rintro m st ⟨i,hi,he,rfl,rfl⟩;refine gT (fun hb=>?_) fun hb=>?_
 ·have hil:i<l.length:=by omega
  have hg:=dN (k:=.i64) hil;rw[DW hil] at he;generalize l[i]=y at *;refine g ?_;by_cases hy:y=0
  ·rw[if_pos hy] at he;refine gGo ?_;exact gZ ⟨i+1,by omega,he,rfl,rfl⟩
  ·rw[if_neg hy] at he;rw[←he];exact gR
 ·have hie:i=l.length:=by omega
  rw[hie,List.drop_length] at he;rw[←he];exact gR
theorem DX(a b:Rf):(orL [cmpJ a.t b.t,cmpJ a.c b.c]<0)↔jt a b=true:=by
 unfold jt orL cmpJ;by_cases h1:a.t<b.t
 ·simp[h1]
 ·by_cases h2:b.t<a.t
  ·have h3:a.t≠b.t:=by omega
   simp[h1,h2,h3]
  ·have h3:a.t=b.t:=by omega
   by_cases h4:a.c<b.c
   ·simp[h3,h4,orL]
   ·by_cases h5:b.c<a.c<;>simp[h3,h4,h5,orL]
theorem rS(a b:Rf):Spec Tryz.prog 111 [.agg a.row,.agg b.row] [] (.bool (jt a b)) []:=by
 have s1:=ju a.t b.t;have s2:=ju a.c b.c;have s3:=nC [cmpJ a.t b.t,cmpJ a.c b.c];have he:=DX a b;generalize cmpJ a.t b.t=x at *;generalize cmpJ a.c b.c=y at *;generalize orL [x,y]=z at *;generalize jt a b=r at *;cases r with
 |true =>
  have hz:z<0:=he.2 rfl;refine gEn env Tryz.func111 fun Γ hN hK hML=>?_;refine gGo ?_;(refine gPC (s1) ?_;conv=>whnf);refine gGo ?_;(refine gPC (s2) ?_;conv=>whnf);refine gGo ?_;(refine gPC (s3) ?_;conv=>whnf);refine gGr ?_;exact ret0 rfl rfl rfl
 |false =>
  have hz:¬z<0:=fun h=>by have:=he.1 h;cases this
  refine gEn env Tryz.func111 fun Γ hN hK hML=>?_;refine gGo ?_;(refine gPC (s1) ?_;conv=>whnf);refine gGo ?_;(refine gPC (s2) ?_;conv=>whnf);refine gGo ?_;(refine gPC (s3) ?_;conv=>whnf);refine gGr ?_;exact ret0 rfl rfl rfl
theorem mN(a b:Rf):Spec Tryz.prog 60 [.agg a.row,.agg b.row] [] (.int .i64 (refC a b)) []:=by
 have s1:=rS a b;have s2:=rS b a;unfold refC;generalize jt a b=x at *;generalize jt b a=y at *;cases x with
 |true =>
  refine gEn env Tryz.func60 fun Γ hN hK hML=>?_;exact gR
 |false =>
  cases y with
  |true =>
   refine gEn env Tryz.func60 fun Γ hN hK hML=>?_;refine gGo ?_;(refine gPC (s1) ?_;conv=>whnf);refine gGo ?_;(refine gPC (s2) ?_;conv=>whnf);refine gGr ?_;exact ret0 rfl rfl rfl
  |false =>
   refine gEn env Tryz.func60 fun Γ hN hK hML=>?_;refine gGo ?_;(refine gPC (s1) ?_;conv=>whnf);refine gGo ?_;(refine gPC (s2) ?_;conv=>whnf);refine gGr ?_;exact ret0 rfl rfl rfl
theorem pM(a b:Stp):Spec Tryz.prog 73 [.agg a.row,.agg b.row] [] (.int .i64 (b8 a b)) []:=by
 have s1:=mN a.fr b.fr;have s2:=mN a.tr b.tr;have s3:=nC [refC a.fr b.fr,refC a.tr b.tr];unfold b8;generalize refC a.fr b.fr=x at *;generalize refC a.tr b.tr=y at *;refine gEn env Tryz.func73 fun Γ hN hK hML=>?_;refine gGo ?_;(refine gPC (s1) ?_;conv=>whnf);refine gGo ?_;(refine gPC (s2) ?_;conv=>whnf);refine gGo ?_;(refine gPC (s3) ?_;conv=>whnf);refine gGr ?_;exact ret0 rfl rfl rfl
theorem lJ{α:Type}{c:α→α→Int}{a b:List α}{i:Nat}(ha:i<a.length)(hb:i<b.length):lexC c (a.drop i) (b.drop i)=if c a[i] b[i]=0 then lexC c (a.drop (i+1)) (b.drop (i+1)) else c a[i] b[i]:=by
 rw[List.drop_eq_getElem_cons ha,List.drop_eq_getElem_cons hb];rfl
theorem rT{α:Type}{c:α→α→Int}{a b:List α}{i:Nat}(ha:i<a.length)(hb:b.length≤i):lexC c (a.drop i) (b.drop i)=1:=by
 rw[List.drop_eq_getElem_cons ha,List.drop_of_length_le hb];rfl
theorem rU{α:Type}{c:α→α→Int}{a b:List α}{i:Nat}(ha:a.length≤i):lexC c (a.drop i) (b.drop i)=if i<b.length then -1 else 0:=by
 rw[List.drop_of_length_le ha];by_cases h:i<b.length
 ·rw[if_pos h,List.drop_eq_getElem_cons h];rfl
 ·rw[if_neg h,List.drop_of_length_le (by omega)];rfl
theorem rV(a b:List Stp):Spec Tryz.prog 78 [.sl (ae a) false,.sl (ae b) false,.fn 73 []] [] (.int .i64 (lexC b8 a b)) []:=by
 have hal:=aC a;have hbl:=aC b;refine gEn env Tryz.func78 fun Γ hN hK hML=>?_;refine gGo ?_;intros;refine W.leG (mp:=[]) (bo:=[]) (st':=⟨[(1,.sl (ae b) false),(2,.fn 73 []),(0,.sl (ae a) false),(11,.sl (ae a) false),(12,.int .i64 (ae a).length),(13,.int .i64 (0:Nat))],[],[]⟩)
  (LeG.mq .nil) ?_
 refine W.loopG (fun m st=>∃i:Nat,i≤a.length∧i≤b.length∧lexC b8 (a.drop i) (b.drop i)=lexC b8 a b∧m=a.length-i∧st=⟨[(1,.sl (ae b) false),(2,.fn 73 []),(0,.sl (ae a) false),(11,.sl (ae a) false),(12,.int .i64 (ae a).length),(13,.int .i64 (i:Nat))],[],[]⟩)
  a.length _ ⟨0,by omega,by omega,rfl,by omega,rfl⟩ gX ?_
 rintro m st ⟨i,hi,hib,he,rfl,rfl⟩;refine gT (fun hb=>?_) fun hb=>?_
 ·have hil:i<a.length:=by omega
  have hg:=bf hil;by_cases hbi:i<b.length
  ·have hg2:=bf hbi;have sp:=pM a[i] b[i];rw[lJ hil hbi] at he;generalize a[i]=x at *;generalize b[i]=y at *;generalize b8 x y=z at *;refine g ?_;by_cases hz:z=0
   ·rw[if_pos hz] at he;refine gGo ?_;intros;exact gZ ⟨i+1,by omega,by omega,he,rfl,rfl⟩
   ·rw[if_neg hz] at he;rw[←he];exact gR
  ·rw[rT hil (by omega)] at he;rw[←he];exact gR
 ·rw[rU (by omega)] at he;rw[←he];refine gGo ?_;by_cases hbi:i<b.length
  ·rw[if_pos hbi];exact gR
  ·rw[if_neg hbi];exact gR
theorem tu(a b:List Rf):Spec Tryz.prog 59 [.sl (ap a) false,.sl (ap b) false,.fn 60 []] [] (.int .i64 (lexC refC a b)) []:=by
 have hal:=bq a;have hbl:=bq b;refine gEn env Tryz.func59 fun Γ hN hK hML=>?_;refine gGo ?_;intros;refine W.leG (mp:=[]) (bo:=[]) (st':=⟨[(1,.sl (ap b) false),(2,.fn 60 []),(0,.sl (ap a) false),(11,.sl (ap a) false),(12,.int .i64 (ap a).length),(13,.int .i64 (0:Nat))],[],[]⟩)
  (LeG.mq .nil) ?_
 refine W.loopG (fun m st=>∃i:Nat,i≤a.length∧i≤b.length∧lexC refC (a.drop i) (b.drop i)=lexC refC a b∧m=a.length-i∧st=⟨[(1,.sl (ap b) false),(2,.fn 60 []),(0,.sl (ap a) false),(11,.sl (ap a) false),(12,.int .i64 (ap a).length),(13,.int .i64 (i:Nat))],[],[]⟩)
  a.length _ ⟨0,by omega,by omega,rfl,by omega,rfl⟩ gX ?_
 rintro m st ⟨i,hi,hib,he,rfl,rfl⟩;refine gT (fun hb=>?_) fun hb=>?_
 ·have hil:i<a.length:=by omega
  have hg:=cE hil;by_cases hbi:i<b.length
  ·have hg2:=cE hbi;have sp:=mN a[i] b[i];rw[lJ hil hbi] at he;generalize a[i]=x at *;generalize b[i]=y at *;generalize refC x y=z at *;refine g ?_;by_cases hz:z=0
   ·rw[if_pos hz] at he;refine gGo ?_;intros;exact gZ ⟨i+1,by omega,by omega,he,rfl,rfl⟩
   ·rw[if_neg hz] at he;rw[←he];exact gR
  ·rw[rT hil (by omega)] at he;rw[←he];exact gR
 ·rw[rU (by omega)] at he;rw[←he];refine gGo ?_;by_cases hbi:i<b.length
  ·rw[if_pos hbi];exact gR
  ·rw[if_neg hbi];exact gR
theorem pN(a b:Pth):Spec Tryz.prog 35 [.agg a.row,.agg b.row] [] (.int .i64 (ordC a b)) []:=by
 have s1:=ju a.start b.start;have s2:=rV a.steps b.steps;have s3:=nC [cmpJ a.start b.start,lexC b8 a.steps b.steps];unfold ordC;generalize cmpJ a.start b.start=x at *;generalize lexC b8 a.steps b.steps=y at *;refine gEn env Tryz.func35 fun Γ hN hK hML=>?_;exact gR
theorem pO(a b:Rf):Spec Tryz.prog 152 [.agg a.row,.agg b.row] [] (.bool (jt a b)) []:=by
 unfold jt;by_cases h1:a.t<b.t
 ·rw[decide_eq_true h1,Bool.true_or];refine gEn env Tryz.func152 fun Γ hN hK hML=>?_;exact gR
 rw[decide_eq_false h1,Bool.false_or];by_cases h2:a.t=b.t
 ·rw[decide_eq_true h2,Bool.true_and];by_cases h3:a.c<b.c
  ·rw[decide_eq_true h3];refine gEn env Tryz.func152 fun Γ hN hK hML=>?_;exact gR
  ·rw[decide_eq_false h3];refine gEn env Tryz.func152 fun Γ hN hK hML=>?_;exact gR
 ·rw[decide_eq_false h2,Bool.false_and];refine gEn env Tryz.func152 fun Γ hN hK hML=>?_;exact gR
theorem jc(a b:Rf):Spec Tryz.prog 108 [.agg a.row,.agg b.row] [] (.int .i64 (refC a b)) []:=by
 have s1:=pO a b;have s2:=pO b a;unfold refC;generalize jt a b=x at *;generalize jt b a=y at *;cases x with
 |true =>
  refine gEn env Tryz.func108 fun Γ hN hK hML=>?_;exact gR
 |false =>
  cases y with
  |true =>
   refine gEn env Tryz.func108 fun Γ hN hK hML=>?_;refine gGo ?_;(refine gPC (s1) ?_;conv=>whnf);refine gGo ?_;(refine gPC (s2) ?_;conv=>whnf);refine gGr ?_;exact ret0 rfl rfl rfl
  |false =>
   refine gEn env Tryz.func108 fun Γ hN hK hML=>?_;refine gGo ?_;(refine gPC (s1) ?_;conv=>whnf);refine gGo ?_;(refine gPC (s2) ?_;conv=>whnf);refine gGr ?_;exact ret0 rfl rfl rfl
theorem tv(a b:Int):Spec Tryz.prog 133 [.int .i64 a,.int .i64 b] [] (.int .i64 (cmpJ a b)) []:=by
 unfold cmpJ;by_cases h1:a<b
 ·rw[if_pos h1];refine gEn env Tryz.func133 fun Γ hN hK hML=>?_;exact gR
 rw[if_neg h1];by_cases h2:b<a
 ·rw[if_pos h2];refine gEn env Tryz.func133 fun Γ hN hK hML=>?_;exact gR
 ·rw[if_neg h2];refine gEn env Tryz.func133 fun Γ hN hK hML=>?_;exact gR
theorem jd(a b:Int):Spec Tryz.prog 107 [.int .i64 a,.int .i64 b] [] (.int .i64 (cmpJ a b)) []:=by
 unfold cmpJ;by_cases h1:a<b
 ·rw[if_pos h1];refine gEn env Tryz.func107 fun Γ hN hK hML=>?_;exact gR
 rw[if_neg h1];by_cases h2:b<a
 ·rw[if_pos h2];refine gEn env Tryz.func107 fun Γ hN hK hML=>?_;exact gR
 ·rw[if_neg h2];refine gEn env Tryz.func107 fun Γ hN hK hML=>?_;exact gR
theorem AP{α:Type}{c:α→α→Int}{a b:List α}{i:Nat}(h:a.length≤i∨b.length≤i)(ha:i≤a.length)(hb:i≤b.length):lexC c (a.drop i) (b.drop i)=cmpJ (a.length:Nat) (b.length:Nat):=by
 unfold cmpJ;by_cases h1:i<a.length
 ·rw[rT h1 (by omega),if_neg (by omega),if_pos (by omega)]
 ·rw[rU (by omega)];by_cases h2:i<b.length
  ·rw[if_pos h2,if_pos (by omega)]
  ·rw[if_neg h2,if_neg (by omega),if_neg (by omega)]
theorem lc(a b:Pth):Spec Tryz.prog 79 [.agg a.row,.agg b.row] [] (.int .i64 (ordC a b)) []:=by
 have hal:=aC a.steps;have hbl:=aC b.steps;have sn:=tv (ae a.steps).length (ae b.steps).length;have hord:ordC a b=if cmpJ a.start b.start=0 then lexC b8 a.steps b.steps else cmpJ a.start b.start:=by
  unfold ordC orL orL orL;by_cases h:lexC b8 a.steps b.steps=0<;>simp[h]
 refine gEn env Tryz.func79 fun Γ hN hK hML=>?_;refine gA ?_;(refine gE env hN (by kernel_rfl) ?_;conv=>whnf);refine gGs ?_;refine W.leG (mp:=[]) (bo:=[2,3]) (st':=⟨[(2,.ro a.row 0),(3,.ro b.row 0)],[],[]⟩)
  (LeG.mk' rfl rfl rfl ⟨⟨_,.bp 2 0 2 a.row none rfl rfl (by simp[Pth.row]) (.inr rfl),rfl⟩,⟨_,.bp 3 0 2 b.row none rfl rfl (by simp[Pth.row]) (.inr rfl),rfl⟩,trivial⟩ .nil rfl rfl (by rw[hK];rfl)) ?_
 by_cases h1:a.start<b.start
 ·have hc:cmpJ a.start b.start=-1:=by unfold cmpJ;rw[if_pos h1]
  rw[hord,hc,if_neg (by decide)];exact gR
 by_cases h2:b.start<a.start
 ·have hc:cmpJ a.start b.start=1:=by unfold cmpJ;rw[if_neg h1,if_pos h2]
  rw[hord,hc,if_neg (by decide)];exact gR
 have hc:cmpJ a.start b.start=0:=by unfold cmpJ;rw[if_neg h1,if_neg h2]
 rw[hord,hc,if_pos rfl];refine gGo ?_;refine W.leG (mp:=[]) (bo:=[]) (st':=⟨[(2,.ro a.row 0),(3,.ro b.row 0),(5,.int .i64 (0:Nat))],[],[]⟩)
  (LeG.mq .nil) ?_
 refine W.loopG (fun m st=>∃i:Nat,i≤a.steps.length∧i≤b.steps.length∧lexC b8 (a.steps.drop i) (b.steps.drop i)=lexC b8 a.steps b.steps∧m=a.steps.length-i∧st=⟨[(2,.ro a.row 0),(3,.ro b.row 0),(5,.int .i64 (i:Nat))],[],[]⟩)
  a.steps.length _ ⟨0,by omega,by omega,rfl,by omega,rfl⟩ gX ?_
 rintro m st ⟨i,hi,hib,he,rfl,rfl⟩;by_cases hil:i<a.steps.length∧i<b.steps.length
 ·obtain⟨hil,hbi⟩:=hil;have hg:=bf hil;have hg2:=bf hbi;rw[lJ hil hbi] at he;have s1:=jc a.steps[i].fr b.steps[i].fr;have s2:=jc a.steps[i].tr b.steps[i].tr;rw[show b8 a.steps[i] b.steps[i]=orL [refC a.steps[i].fr b.steps[i].fr,refC a.steps[i].tr b.steps[i].tr] from rfl] at he;generalize hx:a.steps[i]=x at *;generalize hy:b.steps[i]=y at *;generalize refC x.fr y.fr=z1 at *;generalize refC x.tr y.tr=z2 at *;refine gGo ?_;intros;refine al (r:=x.row) (by simpa using hg) ?_;(conv=>whnf);refine gGo ?_;refine al (r:=y.row) (by simpa using hg2) ?_;(conv=>whnf);refine gGo ?_;(refine gPC (s1) ?_;conv=>whnf);refine gGo ?_;by_cases hz:z1=0
  ·subst hz;refine gGo ?_;refine al (r:=x.row) (by simpa using hg) ?_;(conv=>whnf);refine gGo ?_;refine al (r:=y.row) (by simpa using hg2) ?_;(conv=>whnf);refine gGo ?_;(refine gPC (s2) ?_;conv=>whnf);refine gGo ?_;by_cases hz2:z2=0
   ·subst hz2;refine gGo ?_;exact gZ ⟨i+1,by omega,by omega,he,rfl,rfl⟩
   ·have he2:z2=lexC b8 a.steps b.steps:=by rw[←he];simp[orL,hz2]
    rw[←he2];exact gR
  ·have he2:z1=lexC b8 a.steps b.steps:=by rw[←he];simp[orL,hz]
   rw[←he2];refine gGo ?_;refine gGr ?_;exact ret0 rfl rfl rfl
 ·rw[AP (by omega) hi hib] at he;have he2:cmpJ ((ae a.steps).length:Nat) ((ae b.steps).length:Nat)=lexC b8 a.steps b.steps:=by rw[hal,hbl];exact he
  rw[←he2];by_cases hil:i<a.steps.length
  ·exact gR
  ·exact gR
end Go.Sx.Sp
namespace Go.Sx.Sp
open Go Go.Sx Go.Proofs
attribute [local irreducible] aO famL
structure TotC {α:Type}(c:α→α→Int):Prop where
 zero:∀a b,c a b=0↔a=b
 anti:∀a b,c a b<0↔0<c b a
 trans:∀a b d,c a b<0→c b d<0→c a d<0
theorem nD:TotC cmpJ:=by
 refine⟨fun a b=>?_,fun a b=>?_,fun a b d=>?_⟩<;>unfold cmpJ<;>repeat' split
 all_goals omega
theorem kg(x y:Int):orL [x,y]=if x=0 then y else x:=by
 unfold orL orL orL;by_cases h:y=0<;>simp[h]
theorem TotC.two{α β γ:Type}{c1:β→β→Int}{c2:γ→γ→Int}(h1:TotC c1)(h2:TotC c2){f:α→β}{g:α→γ}(hinj:∀a b,f a=f b→g a=g b→a=b):TotC fun a b=>orL [c1 (f a) (f b),c2 (g a) (g b)]:=by
 refine⟨fun a b=>?_,fun a b=>?_,fun a b d=>?_⟩
 ·rw[kg];constructor
  ·intro h;by_cases h0:c1 (f a) (f b)=0
   ·rw[if_pos h0] at h;exact hinj a b ((h1.zero _ _).1 h0) ((h2.zero _ _).1 h)
   ·rw[if_neg h0] at h;exact absurd h h0
  ·rintro rfl;rw[if_pos ((h1.zero _ _).2 rfl)];exact(h2.zero _ _).2 rfl
 ·rw[kg,kg];by_cases h0:c1 (f a) (f b)=0
  ·have h3:=(h1.zero _ _).1 h0;rw[if_pos h0,if_pos ((h1.zero _ _).2 h3.symm)];exact h2.anti _ _
  ·have h3:¬c1 (f b) (f a)=0:=fun e=>h0 ((h1.zero _ _).2 ((h1.zero _ _).1 e).symm);rw[if_neg h0,if_neg h3];exact h1.anti _ _
 ·simp only[kg];intro k1 k2;by_cases e1:c1 (f a) (f b)=0
  ·rw[if_pos e1] at k1;have e1':=(h1.zero _ _).1 e1;rw[e1'];by_cases e2:c1 (f b) (f d)=0
   ·rw[if_pos e2] at k2 ⊢;exact h2.trans _ _ _ k1 k2
   ·rw[if_neg e2] at k2 ⊢;exact k2
  ·rw[if_neg e1] at k1;by_cases e2:c1 (f b) (f d)=0
   ·have e2':=(h1.zero _ _).1 e2;rw[←e2',if_neg e1];exact k1
   ·rw[if_neg e2] at k2;have:=h1.trans _ _ _ k1 k2;rw[if_neg (by omega)];exact this
theorem E2(a b:Rf):refC a b=orL [cmpJ a.t b.t,cmpJ a.c b.c]:=by
 rw[kg];unfold refC jt cmpJ;by_cases h1:a.t<b.t
 ·have h2:¬b.t<a.t:=by omega
  simp[h1]
 ·by_cases h2:b.t<a.t
  ·have h3:¬a.t=b.t:=by omega
   simp[h1,h2,h3]
  ·have h3:a.t=b.t:=by omega
   by_cases h4:a.c<b.c
   ·simp[h3,h4]
   ·by_cases h5:b.c<a.c<;>simp[h3,h4,h5]
theorem rW:TotC refC:=by
 have h:=TotC.two (α:=Rf) nD nD (f:=Rf.t) (g:=Rf.c) (fun a b h1 h2=>by cases a;cases b;simp_all);have e:refC=fun a b=>orL [cmpJ a.t b.t,cmpJ a.c b.c]:=funext fun a=>funext fun b=>E2 a b;rw[e];exact h
theorem lK:TotC b8:=
 TotC.two (α:=Stp) rW rW (f:=Stp.fr) (g:=Stp.tr) (fun a b h1 h2=>by
  cases a;cases b
  simp only[Stp.fr,Stp.tr,Rf.mk.injEq] at h1 h2
  simp[h1,h2])
theorem uB{α:Type}{c:α→α→Int}(h:TotC c):∀a b:List α,lexC c a b=0↔a=b
 | [],[]=>by simp[lexC]
 | [],_::_=>by simp[lexC]
 |_::_,[]=>by simp[lexC]
 |x::a,y::b=>by
  unfold lexC;by_cases h0:c x y=0
  ·rw[if_pos h0,uB h a b,(h.zero _ _).1 h0];simp
  ·rw[if_neg h0];have:x≠y:=fun e=>h0 ((h.zero _ _).2 e);simp[h0,this]
theorem uC{α:Type}{c:α→α→Int}(h:TotC c):∀a b:List α,lexC c a b<0↔0<lexC c b a
 | [],[]=>by simp[lexC]
 | [],_::_=>by simp[lexC]
 |_::_,[]=>by simp[lexC]
 |x::a,y::b=>by
  unfold lexC;by_cases h0:c x y=0
  ·have e:=(h.zero _ _).1 h0;rw[if_pos h0,if_pos ((h.zero _ _).2 e.symm)];exact uC h a b
  ·have h3:¬c y x=0:=fun e=>h0 ((h.zero _ _).2 ((h.zero _ _).1 e).symm);rw[if_neg h0,if_neg h3];exact h.anti _ _
theorem rX{α:Type}{c:α→α→Int}(h:TotC c):∀a b d:List α,lexC c a b<0→lexC c b d<0→lexC c a d<0
 |_,[],[],_,h2=>by simp[lexC] at h2
 | [],_,_::_,_,_=>by simp[lexC]
 | [],_::_,[],_,h2=>by simp[lexC] at h2
 |_::_,[],_::_,h1,_=>by simp[lexC] at h1
 |_::_,_::_,[],_,h2=>by simp[lexC] at h2
 |x::a,y::b,z::d,h1,h2=>by
  unfold lexC at h1 h2 ⊢;by_cases e1:c x y=0
  ·rw[if_pos e1] at h1;rw[(h.zero _ _).1 e1];by_cases e2:c y z=0
   ·rw[if_pos e2] at h2 ⊢;exact rX h a b d h1 h2
   ·rw[if_neg e2] at h2 ⊢;exact h2
  ·rw[if_neg e1] at h1;by_cases e2:c y z=0
   ·rw[←(h.zero _ _).1 e2,if_neg e1];exact h1
   ·rw[if_neg e2] at h2;have:=h.trans _ _ _ h1 h2;rw[if_neg (by omega)];exact this
theorem xL{α:Type}{c:α→α→Int}(h:TotC c):TotC (lexC c):=⟨uB h,uC h,rX h⟩
theorem dp:TotC ordC:=
 TotC.two (α:=Pth) nD (xL lK) (f:=Pth.start) (g:=Pth.steps) (fun a b h1 h2=>by cases a;cases b;simp_all)
end Go.Sx.Sp
namespace Go.Sx.Sp
open Go Go.Sx Go.Proofs Go.Sort
attribute [local irreducible] aO famL
theorem TotC.ltOf_iff{α:Type}{c:α→α→Int}{a b:α}:ltOf c a b=true↔c a b<0:=by unfold ltOf;exact decide_eq_true_iff
theorem TotC.swo{α:Type}{c:α→α→Int}(h:TotC c):SWO (ltOf c):=by
 have h0:∀a,c a a=0:=fun a=>(h.zero a a).2 rfl;refine⟨fun x=>?_,fun x y z h1 h2=>?_,fun x y z h1 h2=>?_⟩
 ·unfold ltOf;rw[h0];rfl
 ·exact TotC.ltOf_iff.2 (h.trans x y z (TotC.ltOf_iff.1 h1) (TotC.ltOf_iff.1 h2))
 ·unfold ltOf at h1 h2 ⊢;rw[decide_eq_false_iff_not] at h1 h2 ⊢;intro h3;by_cases e1:c x y=0
  ·rw[(h.zero _ _).1 e1] at h3;exact h2 h3
  ·have g1:c y x<0:=(h.anti y x).2 (by omega);exact h2 (h.trans y x z g1 h3)
theorem TotC.tot{α:Type}{c:α→α→Int}(h:TotC c)(a b:α)(h1:ltOf c a b=false)(h2:ltOf c b a=false):a=b:=by
 unfold ltOf at h1 h2;rw[decide_eq_false_iff_not] at h1 h2;refine(h.zero a b).1 ?_;by_cases e:c a b=0
 ·exact e
 ·exact absurd ((h.anti b a).2 (by omega)) h2
def bw{α:Type}(c:α→α→Int)(l:List α):List α:=l.mergeSort fun a b=>!(ltOf c b a)
def ah(l:List Pth):List (List V):=l.map Pth.row
theorem iA(l:List Pth)(hn:l.length<4611686018427387904):Spec Tryz.prog 34 [.osl 0 0 0 (ah l).length (ah l).length,.fn 35 []] [(0,.rows 2 (ah l) (some []))] (.tup []) [(0,.rows 2 (ah (bw ordC l)) (some []))]:=
 i8 Tryz.sortPath 2 (by decide) Tryz.isAgg47 Tryz.sizeOf47 Pth.row (fun _=>rfl) ordC dp.swo dp.tot 35 [] (fun u hu=>by cases hu) pN l hn
theorem rY(l:List Stp)(hn:l.length<4611686018427387904):Spec Tryz.prog 72 [.osl 0 0 0 (ae l).length (ae l).length,.fn 73 []] [(0,.rows 4 (ae l) (some []))] (.tup []) [(0,.rows 4 (ae (bw b8 l)) (some []))]:=
 i8 Tryz.sortStep 4 (by decide) Tryz.isAgg99 Tryz.sizeOf99 Stp.row (fun _=>rfl) b8 lK.swo lK.tot 73 [] (fun u hu=>by cases hu) pM l hn
def AscC{α:Type}(c:α→α→Int)(l:List α):Prop:=l.Pairwise fun a b=>c a b<0
theorem TotC.irr{α:Type}{c:α→α→Int}(h:TotC c)(a:α):¬c a a<0:=fun h1=>by
 have:=(h.zero a a).2 rfl;omega
theorem TotC.ne{α:Type}{c:α→α→Int}(h:TotC c){a b:α}(h1:c a b<0):a≠b:=fun e=>by
 subst e;exact h.irr a h1
theorem TotC.tri{α:Type}{c:α→α→Int}(h:TotC c)(a b:α):c a b<0∨a=b∨c b a<0:=by
 by_cases h0:c a b=0
 ·exact .inr (.inl ((h.zero a b).1 h0))
 ·by_cases h1:c a b<0
  ·exact .inl h1
  ·exact .inr (.inr ((h.anti b a).2 (by omega)))
theorem AscC.nodup{α:Type}{c:α→α→Int}(h:TotC c){l:List α}(ha:AscC c l):l.Nodup:=List.Pairwise.imp (fun h1=>h.ne h1) ha
theorem rZ{α:Type}{c:α→α→Int}(h:TotC c):∀ {l m:List α},AscC c l→AscC c m→(∀x,x∈l↔x∈m)→l=m
 | [],[],_,_,_=>rfl
 | [],b::m,_,_,hx=>by have:=(hx b).2 (by simp);cases this
 |a::l,[],_,_,hx=>by have:=(hx a).1 (by simp);cases this
 |a::l,b::m,hl,hm,hx=>by
  obtain⟨l1,l2⟩:=List.pairwise_cons.1 hl;obtain⟨m1,m2⟩:=List.pairwise_cons.1 hm;have e:a=b:=by
   have h1:=(hx a).1 (by simp);have h2:=(hx b).2 (by simp);rcases List.mem_cons.1 h1 with h1|h1
   ·exact h1
   ·rcases List.mem_cons.1 h2 with h2|h2
    ·exact h2.symm
    ·exact absurd (h.trans _ _ _ (l1 b h2) (m1 a h1)) (h.irr a)
  subst e;have:l=m:=rZ h l2 m2 fun x=>by
   constructor
   ·intro hxl;have:=(hx x).1 (by simp[hxl]);rcases List.mem_cons.1 this with e|h1
    ·subst e;exact absurd (l1 x hxl) (h.irr x)
    ·exact h1
   ·intro hxm;have:=(hx x).2 (by simp[hxm]);rcases List.mem_cons.1 this with e|h1
    ·subst e;exact absurd (m1 x hxm) (h.irr x)
    ·exact h1
  rw[this]
def plcC{α:Type}(c:α→α→Int)(l:List α)(x:α):Nat→Nat
 | 0=>0
 |i+1=>match l[i]? with
  |some y=>if c x y<0 then plcC c l x i else i+1
  |none=>i+1
theorem nE{α:Type}(c:α→α→Int)(l:List α)(x:α):∀n,plcC c l x n≤n
 | 0=>Nat.le_refl _
 |i+1=>by
  have:=nE c l x i;unfold plcC;split
  ·split<;>omega
  ·omega
theorem vQ{α:Type}{c:α→α→Int}{l:List α}{x:α}:∀n,∀j y,plcC c l x n≤j→j<n→l[j]?=some y→c x y<0
 | 0,j,y,_,h2,_=>by omega
 |i+1,j,y,h1,h2,h3=>by
  unfold plcC at h1;split at h1
  ·rename_i z hz;split at h1
   ·rename_i hlt;by_cases e:j=i
    ·subst e;rw[hz] at h3;cases h3;exact hlt
    ·exact vQ i j y h1 (by omega) h3
   ·omega
  ·omega
theorem vR{α:Type}{c:α→α→Int}{l:List α}{x:α}:∀n i y,plcC c l x n=i+1→l[i]?=some y→¬c x y<0
 | 0,i,y,h1,_=>by cases h1
 |n+1,i,y,h1,h2=>by
  unfold plcC at h1;split at h1
  ·rename_i z hz;split at h1
   ·exact vR n i y h1 h2
   ·rename_i hn;have:n=i:=by omega
    subst this;rw[hz] at h2;cases h2;exact hn
  ·rename_i hz;have:n=i:=by omega
   subst this;rw[hz] at h2;cases h2
def insC{α:Type}(c:α→α→Int)(l:List α)(x:α):List α:=l.take (plcC c l x l.length)++x::l.drop (plcC c l x l.length)
def hasC{α:Type}(c:α→α→Int)(l:List α)(x:α):Bool:=match plcC c l x l.length with
 | 0=>false
 |i+1=>match l[i]? with
  |some y=>decide (c x y=0)
  |none=>false
def putZ{α:Type}(c:α→α→Int)(l:List α)(x:α):List α:=if hasC c l x=true then l else insC c l x
theorem DY{α:Type}{c:α→α→Int}{l:List α}{x y:α}:y∈insC c l x↔y∈l∨y=x:=by
 unfold insC;generalize plcC c l x l.length=i;have:y∈l↔y∈l.take i∨y∈l.drop i:=by rw[←List.mem_append,List.take_append_drop]
 rw[List.mem_append,List.mem_cons,this];constructor
 ·rintro(h|h|h)
  ·exact .inl (.inl h)
  ·exact .inr h
  ·exact .inl (.inr h)
 ·rintro((h|h)|h)
  ·exact .inl h
  ·exact .inr (.inr h)
  ·exact .inr (.inl h)
theorem xM{α:Type}(c:α→α→Int)(l:List α)(x:α):(insC c l x).length=l.length+1:=by
 have:=nE c l x l.length;unfold insC;simp;omega
theorem DZ{α:Type}{c:α→α→Int}(h:TotC c){l:List α}{x:α}(h1:hasC c l x=true):x∈l:=by
 unfold hasC at h1;split at h1
 ·cases h1
 ·split at h1
  ·rename_i y hy;have:=(h.zero _ _).1 (of_decide_eq_true h1);subst this;exact List.mem_of_getElem? hy
  ·cases h1
theorem D1{α:Type}{c:α→α→Int}(h:TotC c){l:List α}{x:α}(ha:AscC c l)(hn:hasC c l x=false):AscC c (insC c l x):=by
 have hhi:=fun j y=>vQ (c:=c) (l:=l) (x:=x) l.length j y;have hlo:=fun i y=>vR (c:=c) (l:=l) (x:=x) l.length i y;have hle:=nE c l x l.length;unfold hasC at hn;unfold insC;generalize hp:plcC c l x l.length=p at *;have hgt:∀a∈l.take p,c a x<0:=by
  intro a hm;obtain⟨q,rfl⟩:∃q,p=q+1:=by
   cases p with
   |zero=>simp at hm
   |succ q=>exact⟨q,rfl⟩
  have hq:q<l.length:=by omega
  have h1:=hlo q l[q] rfl (List.getElem?_eq_getElem hq);simp only[List.getElem?_eq_getElem hq,decide_eq_false_iff_not] at hn;have h2:c l[q] x<0:=(h.anti _ _).2 (by omega);obtain⟨j,hj⟩:=List.getElem?_of_mem hm;rw[List.getElem?_take] at hj;split at hj
  ·rename_i hjq;have hjl:=(List.getElem?_eq_some_iff.1 hj).1;have hje:=(List.getElem?_eq_some_iff.1 hj).2;by_cases e:j=q
   ·subst e;rw[←hje];exact h2
   ·have:=List.pairwise_iff_getElem.1 ha j q hjl hq (by omega);rw[hje] at this;exact h.trans _ _ _ this h2
  ·cases hj
 have hlt:∀b∈l.drop p,c x b<0:=by
  intro b hm;obtain⟨j,hj⟩:=List.getElem?_of_mem hm;rw[List.getElem?_drop] at hj;have:=(List.getElem?_eq_some_iff.1 hj).1;exact hhi (p+j) b (by omega) this hj
 unfold AscC at *;rw[List.pairwise_append];refine⟨ha.sublist (List.take_sublist _ _),List.pairwise_cons.2 ⟨hlt,ha.sublist (List.drop_sublist _ _)⟩,fun a hma b hmb=>?_⟩;rcases List.mem_cons.1 hmb with rfl|hmb
 ·exact hgt a hma
 ·exact h.trans _ _ _ (hgt a hma) (hlt b hmb)
theorem xN{α:Type}{c:α→α→Int}(h:TotC c){l:List α}(x:α)(ha:AscC c l):AscC c (putZ c l x):=by
 unfold putZ;cases hh:hasC c l x with
 |true=>exact ha
 |false=>exact D1 h ha hh
theorem xO{α:Type}{c:α→α→Int}(h:TotC c){l:List α}{x y:α}:y∈putZ c l x↔y∈l∨y=x:=by
 unfold putZ;split
 ·rename_i hh;have:=DZ h hh;constructor
  ·exact .inl
  ·rintro(h1|rfl)
   ·exact h1
   ·exact this
 ·exact DY
theorem nF{α:Type}(c:α→α→Int)(l:List α)(x:α):l.length≤(putZ c l x).length∧(putZ c l x).length≤l.length+1:=by
 unfold putZ;split
 ·omega
 ·rw[xM];omega
theorem fS{α:Type}(c:α→α→Int)(l:List α):(bw c l).Perm l:=List.mergeSort_perm _ _
theorem bX{α:Type}(c:α→α→Int)(l:List α):(bw c l).length=l.length:=(fS c l).length_eq
theorem eF{α:Type}(c:α→α→Int){l:List α}{x:α}:x∈bw c l↔x∈l:=(fS c l).mem_iff
theorem ld{α:Type}{c:α→α→Int}(h:TotC c)(l:List α):(bw c l).Pairwise fun a b=>¬c b a<0:=by
 refine(List.pairwise_mergeSort (le:=fun a b=>!(ltOf c b a)) ?_ ?_ l).imp ?_
 ·intro a b d h1 h2;unfold ltOf at *;simp only[Bool.not_eq_true',decide_eq_false_iff_not] at h1 h2 ⊢;intro h3;rcases h.tri a b with g|g|g
  ·exact h2 (h.trans _ _ _ h3 g)
  ·subst g;exact h2 h3
  ·exact h1 g
 ·intro a b;unfold ltOf;rcases h.tri a b with g|g|g
  ·have:¬c b a<0:=fun g2=>h.irr _ (h.trans _ _ _ g g2);simp[this]
  ·subst g;simp[h.irr]
  ·have:¬c a b<0:=fun g2=>h.irr _ (h.trans _ _ _ g g2);simp[this]
 ·intro a b h1;unfold ltOf at h1;simpa using h1
theorem mO{α:Type}{c:α→α→Int}(h:TotC c){l:List α}(hn:l.Nodup):AscC c (bw c l):=by
 have h1:=ld h l;have h2:(bw c l).Nodup:=(fS c l).nodup_iff.2 hn;unfold AscC;refine List.Pairwise.imp₂ (fun a b g1 g2=>?_) h1 h2;rcases h.tri a b with g|g|g
 ·exact g
 ·exact absurd g g2
 ·exact absurd g g1
section
variable {α σ:Type}(c:α→α→Int) (M:Nat) (nx:σ→List σ) (fin:σ→Bool) (isP:σ→Option α)
def putO(o:Option α)(out:List α):List α:=match o with
 |some p=>putZ c out p
 |none=>out
def lf:Nat→σ→List α→List α
 | 0,s,out=>putO c (isP s) out
 |k+1,s,out=>if fin s=true∨M<(putO c (isP s) out).length then putO c (isP s) out else(nx s).foldl (fun o t=>lf k t o) (putO c (isP s) out)
def allG:Nat→σ→List α
 | 0,s=>(isP s).toList
 |k+1,s=>(isP s).toList++if fin s=true then [] else(nx s).flatMap (allG k)
end
section
variable {α σ:Type}{c:α→α→Int}{M:Nat}{nx:σ→List σ}{fin:σ→Bool}{isP:σ→Option α}
theorem xP(h:TotC c)(o:Option α){l:List α}(ha:AscC c l):AscC c (putO c o l):=by
 cases o with
 |none=>exact ha
 |some p=>exact xN h p ha
theorem nG(h:TotC c){o:Option α}{l:List α}{y:α}:y∈putO c o l↔y∈l∨y∈o.toList:=by
 cases o with
 |none=>simp[putO]
 |some p=>simp[putO,xO h]
theorem lg(c:α→α→Int)(o:Option α)(l:List α):l.length≤(putO c o l).length∧(putO c o l).length≤l.length+1:=by
 cases o with
 |none=>simp[putO]
 |some p=>exact nF c l p
structure WalkOK (c:α→α→Int) (M:Nat) (out o' all:List α):Prop where
 asc:AscC c out→AscC c o'
 sub:∀x∈out,x∈o'
 new:∀x∈o',x∈out∨x∈all
 full:M<o'.length∨∀x∈all,x∈o'
 len:out.length≤o'.length
theorem xQ(h:TotC c):∀(k:Nat) (s:σ) (out:List α),WalkOK c M out (lf c M nx fin isP k s out) (allG nx fin isP k s)
 | 0,s,out=>by
  have h1:=lg c (isP s) out;refine⟨fun ha=>xP h _ ha,fun x hx=>(nG h).2 (.inl hx),fun x hx=>(nG h).1 hx,.inr fun x hx=>(nG h).2 (.inr hx),h1.1⟩
 |k+1,s,out=>by
  have h1:=lg c (isP s) out;unfold lf allG;generalize ho:putO c (isP s) out=o1 at *;have hm:∀x,x∈o1↔x∈out∨x∈(isP s).toList:=fun x=>by rw[←ho];exact nG h
  have ha1:AscC c out→AscC c o1:=fun ha=>by rw[←ho];exact xP h _ ha
  by_cases hf:fin s=true
  ·rw[if_pos (.inl hf),if_pos hf];exact⟨ha1,fun x hx=>(hm x).2 (.inl hx),fun x hx=>by simpa using(hm x).1 hx,.inr fun x hx=>(hm x).2 (.inr (by simpa using hx)),h1.1⟩
  ·rw[if_neg hf];by_cases hM:M<o1.length
   ·rw[if_pos (.inr hM)];refine⟨ha1,fun x hx=>(hm x).2 (.inl hx),fun x hx=>?_,.inl hM,h1.1⟩;rcases(hm x).1 hx with h2|h2
    ·exact .inl h2
    ·exact .inr (List.mem_append.2 (.inl h2))
   ·rw[if_neg (fun h2=>h2.elim hf hM)];have hfold:∀(l:List σ) (o:List α),WalkOK c M o (l.foldl (fun o t=>lf c M nx fin isP k t o) o) (l.flatMap (allG nx fin isP k)):=by
     intro l
     induction l with
     |nil=>intro o;exact⟨id,fun _ hx=>hx,fun x hx=>.inl hx,.inr fun x hx=>(by simp at hx),Nat.le_refl _⟩
     |cons t l ih =>
      intro o;have w1:=xQ h k t o;have w2:=ih (lf c M nx fin isP k t o);rw[List.foldl_cons,List.flatMap_cons];refine⟨fun ha=>w2.asc (w1.asc ha),fun x hx=>w2.sub x (w1.sub x hx),fun x hx=>?_,?_,Nat.le_trans w1.len w2.len⟩
      ·rcases w2.new x hx with h2|h2
       ·rcases w1.new x h2 with h3|h3
        ·exact .inl h3
        ·exact .inr (List.mem_append.2 (.inl h3))
       ·exact .inr (List.mem_append.2 (.inr h2))
      ·rcases w2.full with h2|h2
       ·exact .inl h2
       ·rcases w1.full with h3|h3
        ·exact .inl (Nat.lt_of_lt_of_le h3 w2.len)
        ·refine .inr fun x hx=>?_;rcases List.mem_append.1 hx with h4|h4
         ·exact w2.sub x (h3 x h4)
         ·exact h2 x h4
    have w:=hfold (nx s) o1;refine⟨fun ha=>w.asc (ha1 ha),fun x hx=>w.sub x ((hm x).2 (.inl hx)),fun x hx=>?_,?_,Nat.le_trans h1.1 w.len⟩
    ·rcases w.new x hx with h2|h2
     ·rcases(hm x).1 h2 with h3|h3
      ·exact .inl h3
      ·exact .inr (List.mem_append.2 (.inl h3))
     ·exact .inr (List.mem_append.2 (.inr h2))
    ·rcases w.full with h2|h2
     ·exact .inl h2
     ·refine .inr fun x hx=>?_;rcases List.mem_append.1 hx with h3|h3
      ·exact w.sub x ((hm x).2 (.inr h3))
      ·exact h2 x h3
theorem uD(N:Nat)(hN:∀s,(nx s).length≤N):∀(k:Nat) (s:σ) (out:List α),(lf c M nx fin isP k s out).length≤out.length+(N+1) ^ k
 | 0,s,out=>by have:=lg c (isP s) out;simpa[lf] using this.2
 |k+1,s,out=>by
  have h1:=(lg c (isP s) out).2;unfold lf;generalize putO c (isP s) out=o1 at *;have hp:1≤(N+1) ^ (k+1):=Nat.one_le_pow _ _ (by omega);split
  ·omega
  ·have hfold:∀(l:List σ) (o:List α),(l.foldl (fun o t=>lf c M nx fin isP k t o) o).length≤o.length+l.length*(N+1) ^ k:=by
    intro l
    induction l with
    |nil=>intro o;simp
    |cons t l ih =>
     intro o;have w1:=uD N hN k t o;have w2:=ih (lf c M nx fin isP k t o);rw[List.foldl_cons,List.length_cons,Nat.add_mul,Nat.one_mul];omega
   have w:=hfold (nx s) o1;have h2:(nx s).length*(N+1) ^ k≤N*(N+1) ^ k:=Nat.mul_le_mul_right _ (hN s);have h3:(N+1) ^ (k+1)=N*(N+1) ^ k+(N+1) ^ k:=by rw[Nat.pow_succ,Nat.mul_comm,Nat.add_mul,Nat.one_mul]
   have h4:1≤(N+1) ^ k:=Nat.one_le_pow _ _ (by omega);omega
end
def simL(W:Int→List Stp)(dst from_:Int):Nat→List Stp→Int→List Pth
 | 0,way,at_=>if at_=dst then [⟨from_,way⟩] else []
 |k+1,way,at_=>if at_=dst then [⟨from_,way⟩] else(W at_).flatMap fun s=>if s.tt∈from_::way.map Stp.tt then [] else simL W dst from_ k (way++[s]) s.tt
def goB(F:Int→Option Nat)(from_:Int)(k enough:Nat)(way:List Stp)(s:Stp)(out:List Pth):Bool:=match F s.tt with
 |none=>false
 |some n=>!decide (s.tt∈from_::way.map Stp.tt)&&decide (n≤k)&&decide (out.length≤enough)
def visM(W:Int→List Stp)(F:Int→Option Nat)(dst from_:Int)(enough:Nat):Nat→List Stp→Int→List Pth→List Pth
 | 0,way,at_,out=>if at_=dst then out++[⟨from_,way⟩] else out
 |k+1,way,at_,out=>if at_=dst then out++[⟨from_,way⟩] else(W at_).foldl (fun o s=>if goB F from_ k enough way s o=true then visM W F dst from_ enough k (way++[s]) s.tt o else o) out
structure FarOK (W:Int→List Stp) (F:Int→Option Nat) (dst:Int):Prop where
 goal:F dst=some 0
 step:∀t n s,F t=some n→s∈W t→∃m,F s.tt=some m∧m≤n+1
 sym:∀t s,s∈W t→∃s',s'∈W s.tt∧s'.tt=t
theorem xR{W:Int→List Stp}{F:Int→Option Nat}{dst from_:Int}(h:FarOK W F dst):∀(k:Nat) (way:List Stp) (at_:Int),simL W dst from_ k way at_≠[]→∃n,F at_=some n∧n≤k
 | 0,way,at_,hn=>by
  unfold simL at hn;by_cases e:at_=dst
  ·subst e;exact⟨0,h.goal,Nat.le_refl _⟩
  ·rw[if_neg e] at hn;exact absurd rfl hn
 |k+1,way,at_,hn=>by
  unfold simL at hn;by_cases e:at_=dst
  ·subst e;exact⟨0,h.goal,Nat.zero_le _⟩
  ·rw[if_neg e] at hn;obtain⟨x,hx⟩:=List.exists_mem_of_ne_nil _ hn;obtain⟨s,hs,hx⟩:=List.mem_flatMap.1 hx;split at hx
   ·cases hx
   ·obtain⟨n,h1,h2⟩:=xR h k (way++[s]) s.tt (List.ne_nil_of_mem hx);obtain⟨s',hs',hb⟩:=h.sym at_ s hs;obtain⟨m,h3,h4⟩:=h.step _ n s' h1 hs';rw[hb] at h3;exact⟨m,h3,by omega⟩
theorem tw{α:Type}(a b:List α)(n:Nat):((a.take n)++b).take n=(a++b).take n:=by
 rw[List.take_append,List.take_append,List.take_take,List.length_take,Nat.min_self];by_cases h:n≤a.length
 ·rw[Nat.min_eq_left h,Nat.sub_self,show n-a.length=0 by omega]
 ·rw[Nat.min_eq_right (by omega)]
theorem AQ{W:Int→List Stp}{F:Int→Option Nat}{dst from_:Int}{enough:Nat}(h:FarOK W F dst):∀(k:Nat) (way:List Stp) (at_:Int) (out:List Pth),out.length≤enough→visM W F dst from_ enough k way at_ out=(out++simL W dst from_ k way at_).take (enough+1)
 | 0,way,at_,out,ho=>by
  unfold visM simL;split
  ·rw[List.take_of_length_le (by simp;omega)]
  ·rw[List.take_of_length_le (by simp;omega),List.append_nil]
 |k+1,way,at_,out,ho=>by
  unfold visM simL;split
  ·rw[List.take_of_length_le (by simp;omega)]
  ·have hfold:∀(l:List Stp) (o:List Pth),o.length≤enough+1→l.foldl (fun o s=>if goB F from_ k enough way s o=true then visM W F dst from_ enough k (way++[s]) s.tt o else o) o=(o++l.flatMap fun s=>if s.tt∈from_::way.map Stp.tt then [] else simL W dst from_ k (way++[s]) s.tt).take (enough+1):=by
    intro l
    induction l with
    |nil=>intro o hl;simp[List.take_of_length_le hl]
    |cons s l ih =>
     intro o hl;rw[List.foldl_cons,List.flatMap_cons];have key:(if goB F from_ k enough way s o=true then visM W F dst from_ enough k (way++[s]) s.tt o else o)=(o++if s.tt∈from_::way.map Stp.tt then [] else simL W dst from_ k (way++[s]) s.tt).take (enough+1):=by
      by_cases hm:s.tt∈from_::way.map Stp.tt
      ·have hg:goB F from_ k enough way s o=false:=by
        unfold goB;split
        ·rfl
        ·rw[decide_eq_true hm];simp
       rw[hg,if_neg (by decide),if_pos hm,List.append_nil,List.take_of_length_le hl]
      ·rw[if_neg hm];by_cases hle:o.length≤enough
       ·by_cases hf:∃n,F s.tt=some n∧n≤k
        ·obtain⟨n,h1,h2⟩:=hf;have hg:goB F from_ k enough way s o=true:=by
          unfold goB;rw[h1];simp only[decide_eq_false hm,decide_eq_true h2,decide_eq_true hle];rfl
         rw[hg,if_pos rfl,AQ h k _ _ _ hle]
        ·have hg:goB F from_ k enough way s o=false:=by
          unfold goB;split
          ·rfl
          ·rename_i n hn;rw[decide_eq_false fun h2=>hf ⟨n,hn,h2⟩];simp
         have he:simL W dst from_ k (way++[s]) s.tt=[]:=by
          by_cases e:simL W dst from_ k (way++[s]) s.tt=[]
          ·exact e
          ·exact absurd (xR h k _ _ e) hf
         rw[hg,if_neg (by decide),he,List.append_nil,List.take_of_length_le hl]
       ·have hg:goB F from_ k enough way s o=false:=by
         unfold goB;split
         ·rfl
         ·rw[decide_eq_false hle];simp
        have h2:enough+1=o.length:=by omega
        rw[hg,if_neg (by decide),h2,List.take_left]
     rw[key,ih _ (by rw[List.length_take];omega),tw,List.append_assoc]
   exact hfold _ _ (by omega)
theorem jw{W:Int→List Stp}{dst from_:Int}:∀(k:Nat) (way:List Stp) (at_:Int) (x:Pth),x∈simL W dst from_ k way at_→x.start=from_∧way <+: x.steps∧x.steps.length≤way.length+k
 | 0,way,at_,x,hx=>by
  unfold simL at hx;split at hx
  ·simp only[List.mem_singleton] at hx;subst hx;exact⟨rfl,List.prefix_refl _,Nat.le_refl _⟩
  ·cases hx
 |k+1,way,at_,x,hx=>by
  unfold simL at hx;split at hx
  ·simp only[List.mem_singleton] at hx;subst hx;exact⟨rfl,List.prefix_refl _,by simp⟩
  ·obtain⟨s,hs,hx⟩:=List.mem_flatMap.1 hx;split at hx
   ·cases hx
   ·obtain⟨h1,h2,h3⟩:=jw k _ _ x hx;refine⟨h1,(List.prefix_append _ _).trans h2,?_⟩;rw[List.length_append,List.length_singleton] at h3;omega
theorem sc{W:Int→List Stp}{dst from_:Int}(hW:∀t,(W t).Nodup):∀(k:Nat) (way:List Stp) (at_:Int),(simL W dst from_ k way at_).Nodup
 | 0,way,at_=>by unfold simL;split<;>simp
 |k+1,way,at_=>by
  unfold simL;split
  ·simp
  ·rw[List.nodup_iff_pairwise_ne,List.pairwise_flatMap];refine⟨fun s hs=>?_,(List.nodup_iff_pairwise_ne.1 (hW at_)).imp fun{s t} hne x hx y hy e=>?_⟩
   ·rw[←List.nodup_iff_pairwise_ne];split
    ·simp
    ·exact sc hW k _ _
   ·subst e;split at hx
    ·cases hx
    ·split at hy
     ·cases hy
     ·obtain⟨_,h1,_⟩:=jw k _ _ x hx;obtain⟨_,h2,_⟩:=jw k _ _ x hy;have h3:=List.prefix_of_prefix_length_le h1 h2 (by simp);obtain⟨r,hr⟩:=h3;have h4:=congrArg List.length hr;simp at h4;subst h4;rw[List.append_nil] at hr;have:=List.append_cancel_left hr;simp at this;exact hne this
end Go.Sx.Sp
namespace Go.Sx.Sp
open Go Go.Sx Go.Proofs Go.Sort
attribute [local irreducible] aO famL
abbrev BunS:=List (Int×List Stp)
def ax{α:Type}(T:List (Int×α)):List Int:=T.map (·.1)
def aN(T:BunS)(s:Int):List Stp:=match ixI s (ax T) with|some j=>(T.getD j (0,[])).2|none=>[]
def addZ(T:BunS)(s:Int)(x:Stp):BunS:=match ixI s (ax T) with|some j=>T.set j (s,aN T s++[x])|none=>T++[(s,[x])]
theorem qy{s:Int}:∀ {l:List Int}{j:Nat},ixI s l=some j→l[j]?=some s
 | [],j,h=>by cases h
 |u::l,j,h=>by
  by_cases e:s=u
  ·simp only[ixI,e,if_true,Option.some.injEq] at h;subst h;simp[e]
  ·simp only[ixI,e,if_false,Option.map_eq_some_iff] at h;obtain⟨q,hq,rfl⟩:=h;simpa using qy hq
theorem vS{s u:Int}:∀ {l:List Int}{j:Nat},ixI s l=some j→ixI s (l++[u])=some j
 | [],j,h=>by cases h
 |v::l,j,h=>by
  by_cases e:s=v
  ·simp only[ixI,e,if_true,List.cons_append] at h ⊢;exact h
  ·simp only[ixI,e,if_false,Option.map_eq_some_iff,List.cons_append] at h ⊢;obtain⟨q,hq,rfl⟩:=h;exact⟨q,vS hq,rfl⟩
theorem vT{s:Int}:∀ {l:List Int},s∉l→ixI s (l++[s])=some l.length
 | [],_=>by simp[ixI]
 |v::l,h=>by
  have h1:¬s=v:=fun e=>h (by simp[e]);simp[ixI,h1,vT (s:=s) (l:=l) (fun hm=>h (List.mem_cons_of_mem _ hm))]
theorem nH{α:Type}{T:List (Int×α)}{s:Int}{j:Nat}(h:ixI s (ax T)=some j):∃v,T[j]?=some (s,v):=by
 have h1:=qy h;unfold ax at h1;rw[List.getElem?_map,Option.map_eq_some_iff] at h1;obtain⟨⟨a,v⟩,h2,h3⟩:=h1;simp only at h3;subst h3;exact⟨v,h2⟩
theorem eY{T:BunS}{s:Int}{j:Nat}(h:ixI s (ax T)=some j):T[j]?=some (s,aN T s):=by
 obtain⟨v,hv⟩:=nH h;unfold aN;rw[h,hv];simp[List.getD_eq_getElem?_getD,hv]
theorem mP{T:BunS}{s:Int}(h:ixI s (ax T)=none):aN T s=[]:=by unfold aN;rw[h]
theorem gx{T:BunS}{s:Int}{x:Stp}{j:Nat}(h:ixI s (ax T)=some j):addZ T s x=T.set j (s,aN T s++[x]):=by unfold addZ;rw[h]
theorem fx{T:BunS}{s:Int}{x:Stp}(h:ixI s (ax T)=none):addZ T s x=T++[(s,[x])]:=by unfold addZ;rw[h]
theorem sd(T:BunS)(s:Int)(x:Stp):(addZ T s x).length≤T.length+1:=by
 unfold addZ;split<;>simp
theorem uE{T:BunS}{s:Int}{x:Stp}{j:Nat}(h:ixI s (ax T)=some j):ax (addZ T s x)=ax T:=by
 rw[gx h];have hg:=eY h;unfold ax;rw[List.map_set];apply List.ext_getElem?;intro k;rw[List.getElem?_set];by_cases e:j=k
 ·subst e;have hj:=ja h;rw[if_pos rfl,if_pos (by rw[List.length_map];simpa[ax] using hj),List.getElem?_map,hg];rfl
 ·rw[if_neg e]
theorem jx(T:BunS)(s u:Int)(x:Stp):aN (addZ T s x) u=if u=s then aN T s++[x] else aN T u:=by
 cases h:ixI s (ax T) with
 |none =>
  rw[fx h,mP h];have hs:=cM.1 h;have hk:ax (T++[(s,[x])])=ax T++[s]:=by simp[ax]
  unfold aN;rw[hk];cases hu:ixI u (ax T) with
  |none =>
   by_cases e:u=s
   ·subst e;rw[vT hs,if_pos rfl];simp[ax]
   ·have:ixI u (ax T++[s])=none:=cM.2 (by simp[cM.1 hu,e]);rw[this,if_neg e]
  |some j =>
   have hj:=ja hu;have hj2:j<T.length:=by simpa[ax] using hj
   have hne:¬u=s:=fun e=>by subst e;rw[h] at hu;cases hu
   rw[vS hu,if_neg hne];simp[List.getD_eq_getElem?_getD,List.getElem?_append_left hj2]
 |some j =>
  have hk:=uE (x:=x) h;rw[gx h] at hk ⊢;have hj:=ja h;have hj2:j<T.length:=by simpa[ax] using hj
  have hg:=eY h;generalize aN T s=L at *;unfold aN;rw[hk];by_cases e:u=s
  ·subst e;rw[h,if_pos rfl];simp[List.getD_eq_getElem?_getD,hj2]
  ·rw[if_neg e];cases hu:ixI u (ax T) with
   |none=>rfl
   |some q =>
    have hne:j≠q:=fun e2=>by
     subst e2;have h1:=qy h;have h2:=qy hu;rw[h1] at h2;cases h2;exact e rfl
    simp[List.getD_eq_getElem?_getD,List.getElem?_set,hne]
def revS(s:Stp):Stp:=⟨s.tt,s.tc,s.ft,s.fc⟩
def okE(l:List Table)(s:Stp):Bool:=(getC l s.ft s.fc).isSome&&(getC l s.tt s.tc).isSome&&!decide (s.ft=s.tt)
def addE(l:List Table)(T:BunS)(s:Stp):BunS:=if okE l s=true then addZ (addZ T s.ft s) s.tt (revS s) else T
def rawW(l:List Table)(E:List Stp):BunS:=E.foldl (addE l) []
theorem Cb(l:List Table)(E:List Stp)(s:Stp):rawW l (E++[s])=addE l (rawW l E) s:=by unfold rawW;rw[List.foldl_append];rfl
theorem se(l:List Table)(T:BunS)(s:Stp)(t:Int):aN (addE l T s) t=aN T t++(if okE l s=true then(if s.ft=t then [s] else if s.tt=t then [revS s] else []) else []):=by
 unfold addE;split
 ·rename_i h;have hne:¬s.ft=s.tt:=by
   unfold okE at h;simp only[Bool.and_eq_true,Bool.not_eq_true',decide_eq_false_iff_not] at h;exact h.2
  rw[jx,jx];by_cases e:t=s.tt
  ·subst e;rw[if_pos rfl,if_neg (Ne.symm hne),if_neg hne,if_pos rfl]
  ·rw[if_neg e];by_cases e2:t=s.ft
   ·subst e2;rw[if_pos rfl,jx,if_pos rfl]
   ·rw[jx,if_neg e2,if_neg (Ne.symm e2),if_neg (Ne.symm e),List.append_nil]
 ·rw[List.append_nil]
theorem xS(l:List Table)(t:Int)(x:Stp):∀(E:List Stp) (T:BunS),x∈aN (E.foldl (addE l) T) t↔x∈aN T t∨∃s∈E,okE l s=true∧((s.ft=t∧x=s)∨(s.tt=t∧x=revS s))
 | [],T=>by simp
 |s::E,T=>by
  rw[List.foldl_cons,xS l t x E,se,List.mem_append,or_assoc];refine or_congr Iff.rfl ?_;have hne:okE l s=true→¬s.ft=s.tt:=fun h=>by
   unfold okE at h;simp only[Bool.and_eq_true,Bool.not_eq_true',decide_eq_false_iff_not] at h;exact h.2
  constructor
  ·rintro(h|⟨s',h1,h2⟩)
   ·split at h
    ·rename_i ho;split at h
     ·rename_i e;simp only[List.mem_singleton] at h;exact⟨s,by simp,ho,.inl ⟨e,h⟩⟩
     ·split at h
      ·rename_i e;simp only[List.mem_singleton] at h;exact⟨s,by simp,ho,.inr ⟨e,h⟩⟩
      ·cases h
    ·cases h
   ·exact⟨s',by simp[h1],h2⟩
  ·rintro⟨s',h1,h2,h3⟩;rcases List.mem_cons.1 h1 with rfl|h1
   ·refine .inl ?_;rw[if_pos h2];rcases h3 with⟨e,rfl⟩|⟨e,rfl⟩
    ·rw[if_pos e];simp
    ·rw[if_neg (fun e2=>hne h2 (e2.trans e.symm)),if_pos e];simp
   ·exact .inr ⟨s',h1,h2,h3⟩
theorem xT(l:List Table):∀(E:List Stp) (T:BunS),(E.foldl (addE l) T).length≤T.length+2*E.length
 | [],T=>by simp
 |s::E,T=>by
  have h1:=xT l E (addE l T s);have h2:(addE l T s).length≤T.length+2:=by
   unfold addE;split
   ·have:=sd (addZ T s.ft s) s.tt (revS s);have:=sd T s.ft s;omega
   ·omega
  rw[List.foldl_cons,List.length_cons];omega
theorem lL(l:List Table)(t:Int):∀(E:List Stp) (T:BunS),(aN (E.foldl (addE l) T) t).length≤(aN T t).length+E.length
 | [],T=>by simp
 |s::E,T=>by
  have h1:=lL l t E (addE l T s);have h2:(aN (addE l T s) t).length≤(aN T t).length+1:=by
   rw[se,List.length_append];split
   ·split
    ·simp
    ·split<;>simp
   ·simp
  rw[List.foldl_cons,List.length_cons];omega
theorem AR{T:BunS}(h:(ax T).Nodup)(s:Int)(x:Stp):(ax (addZ T s x)).Nodup:=by
 cases hx:ixI s (ax T) with
 |some j=>rw[uE hx];exact h
 |none =>
  rw[fx hx];have:=cM.1 hx;rw[show ax (T++[(s,[x])])=ax T++[s] by simp[ax]];rw[List.nodup_append];exact⟨h,by simp,fun a ha b hb=>by simp at hb;subst hb;exact fun e=>this (e ▸ ha)⟩
theorem AS(l:List Table):∀(E:List Stp) (T:BunS),(ax T).Nodup→(ax (E.foldl (addE l) T)).Nodup
 | [],T,h=>h
 |s::E,T,h=>by
  rw[List.foldl_cons];refine AS l E _ ?_;unfold addE;split
  ·exact AR (AR h _ _) _ _
  ·exact h
def dedK(L:List Stp):Nat→List Stp
 | 0=>[]
 |i+1=>dedK L i++match L[i]? with
  |none=>[]
  |some x=>if i=0∨L[i-1]?≠some x then [x] else []
theorem sg(L:List Stp):∀n,(dedK L n).length≤n
 | 0=>Nat.le_refl _
 |n+1=>by
  have:=sg L n;unfold dedK;rw[List.length_append];split
  ·simp;omega
  ·split<;>simp<;>omega
theorem sh(L:List Stp):∀n,∀x∈dedK L n,x∈L.take n
 | 0,x,h=>by cases h
 |n+1,x,h=>by
  unfold dedK at h;rcases List.mem_append.1 h with h|h
  ·have:=sh L n x h;exact(List.take_subset_take_left L (Nat.le_succ n)) this
  ·split at h
   ·cases h
   ·rename_i y hy;split at h
    ·simp only[List.mem_singleton] at h;subst h;rw[List.mem_iff_getElem?];exact⟨n,by rw[List.getElem?_take_of_lt (by omega)];exact hy⟩
    ·cases h
theorem si(L:List Stp):∀n,∀x∈L.take n,x∈dedK L n
 | 0,x,h=>by simp at h
 |n+1,x,h=>by
  unfold dedK;obtain⟨j,hj⟩:=List.getElem?_of_mem h;rw[List.getElem?_take] at hj;split at hj
  ·rename_i hlt;by_cases e:j=n
   ·subst e;rw[hj];simp only;split
    ·simp
    ·rename_i hn;have h1:¬j=0∧L[j-1]?=some x:=⟨fun e=>hn (.inl e),Classical.byContradiction fun e=>hn (.inr e)⟩
     refine List.mem_append.2 (.inl (si L j x ?_));rw[List.mem_iff_getElem?];exact⟨j-1,by rw[List.getElem?_take_of_lt (by omega)];exact h1.2⟩
   ·refine List.mem_append.2 (.inl (si L n x ?_));rw[List.mem_iff_getElem?];exact⟨j,by rw[List.getElem?_take_of_lt (by omega)];exact hj⟩
  ·cases hj
theorem xU{L:List Stp}(h:TotC b8)(hw:L.Pairwise fun a b=>¬b8 b a<0):∀n,AscC b8 (dedK L n)
 | 0=>List.Pairwise.nil
 |n+1=>by
  have ih:=xU h hw n;unfold dedK;split
  ·simpa using ih
  ·rename_i x hx;split
   ·rename_i hc;unfold AscC at *;rw[List.pairwise_append];refine⟨ih,by simp,fun a ha b hb=>?_⟩;simp only[List.mem_singleton] at hb;subst hb;obtain⟨j,hj⟩:=List.getElem?_of_mem (sh L n a ha);rw[List.getElem?_take] at hj;split at hj
    ·rename_i hjn;have hnl:=(List.getElem?_eq_some_iff.1 hx).1;have hne:=(List.getElem?_eq_some_iff.1 hx).2;have hjl:=(List.getElem?_eq_some_iff.1 hj).1;have hje:=(List.getElem?_eq_some_iff.1 hj).2;have hp:=List.pairwise_iff_getElem.1 hw;rcases hc with e|hc
     ·omega
     ·have hl1:n-1<L.length:=by omega
      have hne1:L[n-1]≠b:=fun e=>hc (by rw[List.getElem?_eq_getElem hl1,e]);have h1:=hp (n-1) n hl1 hnl (by omega);rw[hne] at h1;have h2:b8 L[n-1] b<0:=by
       rcases h.tri L[n-1] b with g|g|g
       ·exact g
       ·exact absurd g hne1
       ·exact absurd g h1
      by_cases e:j=n-1
      ·subst e;rw[←hje];exact h2
      ·have h3:=hp j (n-1) hjl hl1 (by omega);rw[hje] at h3;rcases h.tri a L[n-1] with g|g|g
       ·exact h.trans _ _ _ g h2
       ·rw[g];exact h2
       ·exact absurd g h3
    ·cases hj
   ·simpa using ih
def finS(L:List Stp):List Stp:=dedK (bw b8 L) (bw b8 L).length
theorem D2{L:List Stp}{x:Stp}:x∈finS L↔x∈L:=by
 unfold finS;constructor
 ·intro h;have:=sh _ _ x h;rw[List.take_length] at this;exact(eF b8).1 this
 ·intro h;refine si _ _ x ?_;rw[List.take_length];exact(eF b8).2 h
theorem D3(L:List Stp):(finS L).length≤L.length:=by
 have:=sg (bw b8 L) (bw b8 L).length;rw[bX] at this;unfold finS;rw[bX];exact this
def f8(l:List Table)(E:List Stp):BunS:=(rawW l E).map fun p=>(p.1,finS p.2)
theorem Cc(T:BunS)(f:List Stp→List Stp)(hf:f []=[])(t:Int):aN (T.map fun p=>(p.1,f p.2)) t=f (aN T t):=by
 have hk:ax (T.map fun p=>(p.1,f p.2))=ax T:=by simp[ax]
 unfold aN;rw[hk];cases h:ixI t (ax T) with
 |none=>exact hf.symm
 |some j =>
  obtain⟨v,hv⟩:=nH h;simp[List.getD_eq_getElem?_getD,hv]
def wayW(l:List Table)(E:List Stp)(t:Int):List Stp:=aN (f8 l E) t
theorem D4:finS []=[]:=by simp[finS,bw,dedK]
theorem vU(l:List Table)(E:List Stp)(t:Int):wayW l E t=finS (aN (rawW l E) t):=Cc _ finS D4 t
theorem eZ{l:List Table}{E:List Stp}{t:Int}{x:Stp}:x∈wayW l E t↔∃s∈E,okE l s=true∧((s.ft=t∧x=s)∨(s.tt=t∧x=revS s)):=by
 rw[vU,D2];unfold rawW;rw[xS];simp[aN,ax,ixI]
theorem E3(h:TotC b8)(l:List Table)(E:List Stp)(t:Int):(wayW l E t).Nodup:=by
 rw[vU];exact(xU h (ld h _) _).nodup h
theorem sj(l:List Table)(E:List Stp)(t:Int):(wayW l E t).length≤E.length:=by
 rw[vU];refine Nat.le_trans (D3 _) ?_;have:=lL l t E [];simpa[rawW,aN,ax,ixI] using this
theorem AT{l:List Table}{E:List Stp}{t:Int}{x:Stp}(h:x∈wayW l E t):x.ft=t:=by
 obtain⟨s,_,_,h|h⟩:=eZ.1 h
 ·rw[h.2];exact h.1
 ·rw[h.2];exact h.1
theorem D5{l:List Table}{E:List Stp}{t:Int}{x:Stp}(h:x∈wayW l E t):revS x∈wayW l E x.tt:=by
 obtain⟨s,h1,h2,h3|h3⟩:=eZ.1 h
 ·obtain⟨h4,rfl⟩:=h3;exact eZ.2 ⟨x,h1,h2,.inr ⟨rfl,rfl⟩⟩
 ·obtain⟨h4,rfl⟩:=h3;exact eZ.2 ⟨s,h1,h2,.inl ⟨rfl,rfl⟩⟩
abbrev Dist:=List (Int×Nat)
def farS(n:Nat)(D:Dist)(s:Stp):Dist:=if s.tt∈ax D then D else D++[(s.tt,n+1)]
def farT(W:Int→List Stp)(D:Dist)(i:Nat):Dist:=match D[i]? with
 |none=>D
 |some q=>(W q.1).foldl (farS q.2) D
def farR(W:Int→List Stp):Nat→Nat→Dist→Dist
 | 0,i,D=>D
 |k+1,i,D=>if i<D.length then farR W k (i+1) (farT W D i) else D
def bJ(D:Dist)(t:Int):Option Nat:=(ixI t (ax D)).map fun j=>(D.getD j (0,0)).2
structure FarI (W:Int→List Stp) (U:List Int) (goal:Int) (i:Nat) (D:Dist):Prop where
 head:D[0]?=some (goal,0)
 nd:(ax D).Nodup
 sub:∀t∈ax D,t∈U
 le:i≤D.length
 mono:D.Pairwise fun a b=>a.2≤b.2
 last:∀q,D[i]?=some q→∀p∈D,p.2≤q.2+1
 done:∀j q,j<i→D[j]?=some q→∀s∈W q.1,∃m,bJ D s.tt=some m∧m≤q.2+1
theorem uF{D:Dist}{t:Int}{m:Nat}(h:bJ D t=some m)(E:Dist):bJ (D++E) t=some m:=by
 unfold bJ at *;rw[Option.map_eq_some_iff] at h ⊢;obtain⟨j,hj,rfl⟩:=h;have hjl:=ja hj;have hjl2:j<D.length:=by simpa[ax] using hjl
 refine⟨j,?_,by simp[List.getD_eq_getElem?_getD,List.getElem?_append_left hjl2]⟩;have:∀(l e:List Int) (j:Nat),ixI t l=some j→ixI t (l++e)=some j:=fun l e=>by
  induction e generalizing l with
  |nil=>intro j h;simpa using h
  |cons u e ih =>
   intro j h;have:=ih (l++[u]) j (vS h);simpa using this
 have h2:=this (ax D) (ax E) j hj;simpa[ax] using h2
theorem Cd{D:Dist}{t:Int}{n:Nat}(h:t∉ax D):bJ (D++[(t,n)]) t=some n:=by
 unfold bJ;rw[show ax (D++[(t,n)])=ax D++[t] by simp[ax],vT h];simp[ax]
theorem oV{D:Dist}{t:Int}{m:Nat}(h:bJ D t=some m):∃j:Nat,D[j]?=some (t,m):=by
 unfold bJ at h;rw[Option.map_eq_some_iff] at h;obtain⟨j,hj,rfl⟩:=h;obtain⟨v,hv⟩:=nH hj;exact⟨j,by simp[List.getD_eq_getElem?_getD,hv]⟩
theorem mQ{D:Dist}{t:Int}(h:t∈ax D):∃m,bJ D t=some m:=by
 unfold bJ;cases hx:ixI t (ax D) with
 |none=>exact absurd h (cM.1 hx)
 |some j=>exact⟨_,rfl⟩
structure FarJ (W:Int→List Stp) (U:List Int) (goal:Int) (i:Nat) (q:Int×Nat) (S:List Stp) (D0 D:Dist):Prop where
 at_:D[i]?=some q
 head:D[0]?=some (goal,0)
 nd:(ax D).Nodup
 sub:∀t∈ax D,t∈U
 mono:D.Pairwise fun a b=>a.2≤b.2
 last:∀p∈D,p.2≤q.2+1
 done:∀j p,j<i→D[j]?=some p→∀s∈W p.1,∃m,bJ D s.tt=some m∧m≤p.2+1
 these:∀s∈S,∃m,bJ D s.tt=some m∧m≤q.2+1
theorem FarJ.step{W:Int→List Stp}{U:List Int}{goal:Int}{i:Nat}{q:Int×Nat}{S:List Stp}{D0 D:Dist}(h:FarJ W U goal i q S D0 D){s:Stp}(hU:s.tt∈U):FarJ W U goal i q (S++[s]) D0 (farS q.2 D s):=by
 unfold farS;by_cases hm:s.tt∈ax D
 ·rw[if_pos hm];refine⟨h.at_,h.head,h.nd,h.sub,h.mono,h.last,h.done,fun x hx=>?_⟩;rcases List.mem_append.1 hx with hx|hx
  ·exact h.these x hx
  ·simp only[List.mem_singleton] at hx;subst hx;obtain⟨m,h1⟩:=mQ hm;obtain⟨j,hj⟩:=oV h1;exact⟨m,h1,h.last _ (List.mem_of_getElem? hj)⟩
 ·rw[if_neg hm];have hil:=(List.getElem?_eq_some_iff.1 h.at_).1;have hk:ax (D++[(s.tt,q.2+1)])=ax D++[s.tt]:=by simp[ax]
  refine⟨by rw[List.getElem?_append_left hil];exact h.at_,by rw[List.getElem?_append_left (by omega)];exact h.head,?_,fun t ht=>?_,?_,fun p hp=>?_,fun j p hj hp x hx=>?_,fun x hx=>?_⟩
  ·rw[hk,List.nodup_append];exact⟨h.nd,by simp,fun a ha b hb=>by simp at hb;subst hb;exact fun e=>hm (e ▸ ha)⟩
  ·rw[hk] at ht;rcases List.mem_append.1 ht with ht|ht
   ·exact h.sub t ht
   ·simp only[List.mem_singleton] at ht;subst ht;exact hU
  ·rw[List.pairwise_append];exact⟨h.mono,by simp,fun a ha b hb=>by simp only[List.mem_singleton] at hb;subst hb;exact h.last a ha⟩
  ·rcases List.mem_append.1 hp with hp|hp
   ·exact h.last p hp
   ·simp only[List.mem_singleton] at hp;subst hp;exact Nat.le_refl _
  ·rw[List.getElem?_append_left (by omega)] at hp;obtain⟨m,h1,h2⟩:=h.done j p hj hp x hx;exact⟨m,uF h1 _,h2⟩
  ·rcases List.mem_append.1 hx with hx|hx
   ·obtain⟨m,h1,h2⟩:=h.these x hx;exact⟨m,uF h1 _,h2⟩
   ·simp only[List.mem_singleton] at hx;subst hx;exact⟨_,Cd hm,Nat.le_refl _⟩
theorem FarI.open_{W:Int→List Stp}{U:List Int}{goal:Int}{i:Nat}{D:Dist}(h:FarI W U goal i D){q:Int×Nat}(hq:D[i]?=some q):FarJ W U goal i q [] D D:=
 ⟨hq,h.head,h.nd,h.sub,h.mono,h.last q hq,h.done,fun s hs=>by cases hs⟩
theorem FarJ.close{W:Int→List Stp}{U:List Int}{goal:Int}{i:Nat}{q:Int×Nat}{D0 D:Dist}(h:FarJ W U goal i q (W q.1) D0 D):FarI W U goal (i+1) D:=by
 have hil:=(List.getElem?_eq_some_iff.1 h.at_).1;have hiq:=(List.getElem?_eq_some_iff.1 h.at_).2;refine⟨h.head,h.nd,h.sub,by omega,h.mono,fun q' hq' p hp=>?_,fun j p hj hp s hs=>?_⟩
 ·have h1:=h.last p hp;have hl:=(List.getElem?_eq_some_iff.1 hq').1;have he:=(List.getElem?_eq_some_iff.1 hq').2;have h2:=List.pairwise_iff_getElem.1 h.mono i (i+1) hil hl (by omega);rw[hiq,he] at h2;omega
 ·by_cases e:j=i
  ·subst e;rw[h.at_] at hp;cases hp;exact h.these s hs
  ·exact h.done j p (by omega) hp s hs
theorem FarI.start(W:Int→List Stp){U:List Int}{goal:Int}(h:goal∈U):FarI W U goal 0 [(goal,0)]:=by
 refine⟨rfl,by simp[ax],fun t ht=>?_,Nat.zero_le _,by simp,fun q hq p hp=>?_,fun j q hj=>by omega⟩
 ·simp[ax] at ht;subst ht;exact h
 ·simp only[List.mem_singleton] at hp;subst hp;simp
theorem FarI.len{W:Int→List Stp}{U:List Int}{goal:Int}{i:Nat}{D:Dist}(h:FarI W U goal i D):D.length≤U.length:=by
 have:=h.nd.length_le_of_subset (l₂:=U) fun t ht=>h.sub t ht;simpa[ax] using this
theorem FarJ.len{W:Int→List Stp}{U:List Int}{goal:Int}{i:Nat}{q:Int×Nat}{S:List Stp}{D0 D:Dist}(h:FarJ W U goal i q S D0 D):D.length≤U.length:=by
 have:=h.nd.length_le_of_subset (l₂:=U) fun t ht=>h.sub t ht;simpa[ax] using this
theorem FarJ.fold{W:Int→List Stp}{U:List Int}{goal:Int}{i:Nat}{q:Int×Nat}{D0:Dist}:∀(R S:List Stp) (D:Dist),FarJ W U goal i q S D0 D→(∀s∈R,s.tt∈U)→FarJ W U goal i q (S++R) D0 (R.foldl (farS q.2) D)
 | [],S,D,h,_=>by simpa using h
 |s::R,S,D,h,hU=>by
  have:=FarJ.fold R (S++[s]) _ (h.step (hU s (by simp))) fun x hx=>hU x (by simp[hx]);simpa using this
theorem FarI.turn{W:Int→List Stp}{U:List Int}{goal:Int}{i:Nat}{D:Dist}(h:FarI W U goal i D)(hi:i<D.length)(hU:∀t,∀s∈W t,s.tt∈U):FarI W U goal (i+1) (farT W D i):=by
 have hq:D[i]?=some D[i]:=List.getElem?_eq_getElem hi;unfold farT;rw[hq];have:=FarJ.fold (W D[i].1) [] D (h.open_ hq) (hU _);rw[List.nil_append] at this;exact this.close
theorem AU{W:Int→List Stp}{U:List Int}{goal:Int}(hU:∀t,∀s∈W t,s.tt∈U):∀(k i:Nat) (D:Dist),FarI W U goal i D→U.length≤i+k→FarI W U goal (farR W k i D).length (farR W k i D)
 | 0,i,D,h,hk=>by
  have h1:=h.len;have h2:=h.le;have:i=D.length:=by omega
  subst this;exact h
 |k+1,i,D,h,hk=>by
  unfold farR;split
  ·rename_i hi;exact AU hU k (i+1) _ (h.turn hi hU) (by omega)
  ·have h2:=h.le;have:i=D.length:=by omega
   subst this;exact h
def allT(E:List Stp)(goal:Int):List Int:=goal::(E.map Stp.tt++E.map Stp.ft)
def farM(l:List Table)(E:List Stp)(goal:Int):Dist:=farR (wayW l E) (2*E.length+1) 0 [(goal,0)]
theorem xV{l:List Table}{E:List Stp}{goal t:Int}{s:Stp}(h:s∈wayW l E t):s.tt∈allT E goal:=by
 obtain⟨x,h1,_,h|h⟩:=eZ.1 h
 ·rw[h.2];unfold allT;simp;exact .inr (.inl ⟨x,h1,rfl⟩)
 ·rw[h.2];unfold allT;simp;exact .inr (.inr ⟨x,h1,rfl⟩)
theorem AV(l:List Table)(E:List Stp)(goal:Int):FarI (wayW l E) (allT E goal) goal (farM l E goal).length (farM l E goal):=
 AU (fun t s hs=>xV hs) _ 0 _ (FarI.start _ (by simp[allT])) (by simp[allT];omega)
theorem D6(l:List Table)(E:List Stp)(goal:Int):(farM l E goal).length≤2*E.length+1:=by
 have:=(AV l E goal).len;simp[allT] at this;omega
theorem D7(l:List Table)(E:List Stp)(goal:Int):FarOK (wayW l E) (bJ (farM l E goal)) goal:=by
 have h:=AV l E goal;refine⟨?_,fun t n s hn hs=>?_,fun t s hs=>⟨revS s,D5 hs,?_⟩⟩
 ·have hl:0<(farM l E goal).length:=(List.getElem?_eq_some_iff.1 h.head).1;unfold bJ;have:ax (farM l E goal)=goal::(ax (farM l E goal)).tail:=by
   cases hD:farM l E goal with
   |nil=>rw[hD] at hl;simp at hl
   |cons a D =>
    have:=h.head;rw[hD] at this;simp at this;subst this;simp[ax]
  rw[this];simp[ixI,List.getD_eq_getElem?_getD,h.head]
 ·obtain⟨j,hj⟩:=oV hn;exact h.done j (t,n) (List.getElem?_eq_some_iff.1 hj).1 hj s hs
 ·exact AT hs
structure WS where
 p:Pth
 at_:Int
def bh(E:List (List Int)):List Stp:=E.map dG
def nxC(l:List Table)(s:WS)(r:List Int):Option WS:=if((getC l (dG r).ft (dG r).fc).isSome&&(getC l (dG r).tt (dG r).tc).isSome&&!decide ((dG r).tt∈befT s.p s.p.steps.length))=true then some ⟨⟨s.p.start,s.p.steps++[dG r]⟩,(dG r).tt⟩ else none
def nxR(l:List Table)(E:List (List Int))(s:WS):List WS:=(jq E s.at_).filterMap (nxC l s)
def finR(dst:Int)(s:WS):Bool:=decide (s.at_=dst)
def isPR(dst:Int)(s:WS):Option Pth:=if 0<s.p.steps.length∧((dst<0∧s.p.start<s.at_)∨s.at_=dst) then some s.p else none
def l9(l:List Table)(E:List (List Int))(dst:Int)(k:Nat)(s:WS)(out:List Pth):List Pth:=lf ordC 1024 (nxR l E) (finR dst) (isPR dst) k s out
theorem sk(r:List Int):dG (DL r)=revS (dG r):=rfl
theorem xW(p:Pth):befT p p.steps.length=p.start::p.steps.map Stp.tt:=by unfold befT;rw[List.take_length]
theorem E4(l:List Table)(E:List (List Int))(s:WS):(nxR l E s).length≤E.length:=
 Nat.le_trans (List.length_filterMap_le _ _) (rK E s.at_)
theorem AW{l:List Table}{E:List (List Int)}{s t:WS}(hat:s.at_∈s.p.start::s.p.steps.map Stp.tt):t∈nxR l E s↔∃x,x∈wayW l (bh E) s.at_∧x.tt∉s.p.start::s.p.steps.map Stp.tt∧t=⟨⟨s.p.start,s.p.steps++[x]⟩,x.tt⟩:=by
 unfold nxR nxC jq;rw[List.mem_filterMap];simp only[xW];constructor
 ·rintro⟨r,hr,h⟩;split at h
  ·rename_i hc;cases h;simp only[Bool.and_eq_true,Bool.not_eq_true',decide_eq_false_iff_not] at hc;obtain⟨⟨h1,h2⟩,h3⟩:=hc;refine⟨dG r,?_,h3,rfl⟩;obtain⟨r',hr',hm⟩:=List.mem_flatMap.1 hr;unfold l8 at hm;split at hm
   ·rename_i e;simp only[List.mem_singleton] at hm;subst hm;have hft:(dG r).ft=s.at_:=e;refine eZ.2 ⟨dG r,List.mem_map_of_mem hr',?_,.inl ⟨hft,rfl⟩⟩;unfold okE;rw[h1,h2,decide_eq_false fun e2=>h3 (by rw[←e2,hft];exact hat)];rfl
   ·split at hm
    ·rename_i e;simp only[List.mem_singleton] at hm;subst hm;rw[sk] at h1 h2 h3 ⊢;have htt:(dG r').tt=s.at_:=e;have h3':(dG r').ft∉s.p.start::s.p.steps.map Stp.tt:=h3;refine eZ.2 ⟨dG r',List.mem_map_of_mem hr',?_,.inr ⟨htt,rfl⟩⟩;unfold okE;have h1':(getC l (dG r').tt (dG r').tc).isSome=true:=h1;have h2':(getC l (dG r').ft (dG r').fc).isSome=true:=h2;rw[h1',h2',decide_eq_false fun e2=>h3' (by rw[e2,htt];exact hat)];rfl
    ·cases hm
  ·cases h
 ·rintro⟨x,hx,hn,rfl⟩;obtain⟨y,hy,ho,h⟩:=eZ.1 hx;obtain⟨r,hr,rfl⟩:=List.mem_map.1 hy;unfold okE at ho;simp only[Bool.and_eq_true,Bool.not_eq_true',decide_eq_false_iff_not] at ho;obtain⟨⟨h1,h2⟩,h3⟩:=ho;rcases h with⟨e,rfl⟩|⟨e,rfl⟩
  ·refine⟨r,List.mem_flatMap.2 ⟨r,hr,?_⟩,?_⟩
   ·have e:r.getD 0 0=s.at_:=e;unfold l8;rw[if_pos e];simp
   ·rw[if_pos];rw[h1,h2,decide_eq_false hn];rfl
  ·refine⟨DL r,List.mem_flatMap.2 ⟨r,hr,?_⟩,?_⟩
   ·have e':r.getD 2 0=s.at_:=e;have hne:¬r.getD 0 0=s.at_:=fun e2=>h3 (by rw[e];exact e2);unfold l8;rw[if_neg hne,if_pos e'];simp
   ·rw[sk];have g1:(getC l (revS (dG r)).ft (revS (dG r)).fc).isSome=true:=h2;have g2:(getC l (revS (dG r)).tt (revS (dG r)).tc).isSome=true:=h1;rw[if_pos];rw[g1,g2,decide_eq_false hn];rfl
def iR(l:List Table)(E:List (List Int))(from_ dst:Int)(k:Nat):List Pth:=simL (wayW l (bh E)) dst from_ k [] from_
def f9(l:List Table)(E:List (List Int))(from_ dst:Int)(most enough:Nat):List Pth:=if from_=dst then [⟨from_,[]⟩] else bw ordC (visM (wayW l (bh E)) (bJ (farM l (bh E) dst)) dst from_ enough most [] from_ [])
theorem xX{l:List Table}{E:List (List Int)}{from_ dst:Int}{most enough:Nat}(hne:from_≠dst):f9 l E from_ dst most enough=bw ordC ((iR l E from_ dst most).take (enough+1)):=by
 unfold f9;rw[if_neg hne,AQ (D7 l (bh E) dst) most [] from_ [] (Nat.zero_le _),List.nil_append];rfl
theorem tz(l:List Table)(E:List (List Int))(from_ dst:Int)(k:Nat):(iR l E from_ dst k).Nodup:=sc (E3 lK l (bh E)) k [] from_
theorem uG(l:List Table)(E:List (List Int))(from_ dst:Int)(most enough:Nat):(f9 l E from_ dst most enough).length≤enough+1:=by
 by_cases e:from_=dst
 ·unfold f9;rw[if_pos e];simp
 ·rw[xX e,bX,List.length_take];omega
end Go.Sx.Sp
