/- Plain laws of routes. -/
import Derived.Test.YthlokmbefpjmgaaGreatDoorJOne
import Derived.Test.YthlokmbefpjmgaaGreatDoorSxFive
import Derived.Test.YthlokmbefpjmgaaGreatDoorSxSix
import Derived.Test.YthlokmbefpjmgaaGreatDoorSpOne
import Derived.Test.YthlokmbefpjmgaaGreatDoorJSix
import Derived.Test.YthlokmbefpjmgaaGreatDoorJTwo
import Derived.Test.YthlokmbefpjmgaaGreatDoorSxFour
set_option linter.unusedVariables false
set_option linter.unusedSimpArgs false
namespace Go.Sx.Sp
open Go Go.Sx Go.Proofs
attribute [local irreducible] GoodW famL
structure Rf where
 t:Int
 c:Int
 deriving DecidableEq
def Rf.row (r:Rf):List V:=[.int .i64 r.t,.int .i64 r.c]
def rfRows (l:List Rf):List (List V):=l.map Rf.row
theorem rfRows_len (l:List Rf):(rfRows l).length=l.length:=by simp [rfRows]
theorem rfRows_get {l:List Rf}{i:Nat}(h:i<l.length):(rfRows l)[i]?=some l[i].row:=by simp [rfRows,h]
end Go.Sx.Sp
namespace Go.Sx.Sp
open Go Go.Sx Go.Proofs
attribute [local irreducible] GoodW famL
attribute [local instance] GQ
def cmpJ (a b:Int):Int:=if a<b then -1 else if b<a then 1 else 0
def orL:List Int→Int
 | []=>0
 | x::l=>if x=0 then orL l else x
def lessR (a b:Rf):Bool:=decide (a.t<b.t)||(decide (a.t=b.t)&&decide (a.c<b.c))
def refC (a b:Rf):Int:=if lessR a b=true then -1 else if lessR b a=true then 1 else 0
def Stp.fr (s:Stp):Rf:=⟨s.ft,s.fc⟩
def Stp.tr (s:Stp):Rf:=⟨s.tt,s.tc⟩
def stepC (a b:Stp):Int:=orL [refC a.fr b.fr,refC a.tr b.tr]
def lexC {α:Type}(c:α→α→Int):List α→List α→Int
 | [],[]=>0
 | [],_::_=>-1
 | _::_,[]=>1
 | x::a,y::b=>if c x y=0 then lexC c a b else c x y
def ordC (a b:Pth):Int:=orL [cmpJ a.start b.start,lexC stepC a.steps b.steps]
set_option maxHeartbeats 1000000 in
theorem isNaNQ_spec (n:Int):Spec Tryz.prog 110 [.int .i64 n] [] (.bool false) []:=by
 refine gEn env Tryz.func110 fun Γ hN hK hML=>?_;exact gR
set_option maxHeartbeats 1000000 in
theorem cmpQ_spec (a b:Int):Spec Tryz.prog 58 [.int .i64 a,.int .i64 b] [] (.int .i64 (cmpJ a b)) []:=by
 refine gEn env Tryz.func58 fun Γ hN hK hML=>?_;refine gGo ?_;(refine gPC (isNaNQ_spec a) ?_;conv=>whnf);refine gGo ?_;(refine gPC (isNaNQ_spec b) ?_;conv=>whnf);refine gT (fun hb=>?_) fun hb=>?_
 ·have h:cmpJ a b=-1:=by simp [cmpJ,hb]
  rw [h];exact gR
 refine gT (fun hb=>?_) fun hb=>?_
 ·have h:cmpJ a b=1:=by unfold cmpJ;rw [if_neg (by omega),if_pos (by omega)]
  rw [h];exact gR
 ·have h:cmpJ a b=0:=by unfold cmpJ;rw [if_neg (by omega),if_neg (by omega)]
  rw [h];exact gR
theorem orL_drop {l:List Int}{i:Nat}(hi:i<l.length):orL (l.drop i)=if l[i]=0 then orL (l.drop (i+1)) else l[i]:=by
 rw [List.drop_eq_getElem_cons hi];rfl
set_option maxHeartbeats 4000000 in
theorem orQ_spec (l:List Int):Spec Tryz.prog 57 [.sl (intRows .i64 l) false] [] (.int .i64 (orL l)) []:=by
 have hl:=intRows_len .i64 l;refine gEn env Tryz.func57 fun Γ hN hK hML=>?_;refine gGo ?_;intros;refine W.leG (mp:=[]) (bo:=[]) (st':=⟨[(3,.int .i64 0),(6,.sl (intRows .i64 l) false),(7,.int .i64 (intRows .i64 l).length),(8,.int .i64 (0:Nat))],[],[]⟩)
  (LeG.mq .nil) ?_
 refine W.loopG (fun m st=>∃ i:Nat,i≤l.length∧orL (l.drop i)=orL l∧m=l.length-i∧st=⟨[(3,.int .i64 0),(6,.sl (intRows .i64 l) false),(7,.int .i64 (intRows .i64 l).length),(8,.int .i64 (i:Nat))],[],[]⟩)
  l.length _ ⟨0,by omega,rfl,by omega,rfl⟩ gX ?_
 rintro m st ⟨i,hi,he,rfl,rfl⟩;refine gT (fun hb=>?_) fun hb=>?_
 ·have hil:i<l.length:=by omega
  have hg:=intRows_get (k:=.i64) hil;rw [orL_drop hil] at he;generalize l[i]=y at *;refine g ?_;by_cases hy:y=0
  ·rw [if_pos hy] at he;refine gGo ?_;exact gZ ⟨i+1,by omega,he,rfl,rfl⟩
  ·rw [if_neg hy] at he;rw [←he];exact gR
 ·have hie:i=l.length:=by omega
  rw [hie,List.drop_length] at he;rw [←he];exact gR
theorem lessR_eq (a b:Rf):(orL [cmpJ a.t b.t,cmpJ a.c b.c]<0)↔lessR a b=true:=by
 unfold lessR orL cmpJ;by_cases h1:a.t<b.t
 ·simp [h1]
 ·by_cases h2:b.t<a.t
  ·have h3:a.t≠b.t:=by omega
   simp [h1,h2,h3]
  ·have h3:a.t=b.t:=by omega
   by_cases h4:a.c<b.c
   ·simp [h3,h4,orL]
   ·by_cases h5:b.c<a.c<;>simp [h3,h4,h5,orL]
set_option maxHeartbeats 4000000 in
theorem lessQ_spec (a b:Rf):Spec Tryz.prog 111 [.agg a.row,.agg b.row] [] (.bool (lessR a b)) []:=by
 have s1:=cmpQ_spec a.t b.t;have s2:=cmpQ_spec a.c b.c;have s3:=orQ_spec [cmpJ a.t b.t,cmpJ a.c b.c];have he:=lessR_eq a b;generalize cmpJ a.t b.t=x at *;generalize cmpJ a.c b.c=y at *;generalize orL [x,y]=z at *;generalize lessR a b=r at *;cases r with
 | true =>
  have hz:z<0:=he.2 rfl;refine gEn env Tryz.func111 fun Γ hN hK hML=>?_;refine gGo ?_;(refine gPC (s1) ?_;conv=>whnf);refine gGo ?_;(refine gPC (s2) ?_;conv=>whnf);refine gGo ?_;(refine gPC (s3) ?_;conv=>whnf);refine gGr ?_;exact ret0 rfl rfl rfl
 | false =>
  have hz:¬ z<0:=fun h=>by have:=he.1 h;cases this
  refine gEn env Tryz.func111 fun Γ hN hK hML=>?_;refine gGo ?_;(refine gPC (s1) ?_;conv=>whnf);refine gGo ?_;(refine gPC (s2) ?_;conv=>whnf);refine gGo ?_;(refine gPC (s3) ?_;conv=>whnf);refine gGr ?_;exact ret0 rfl rfl rfl
set_option maxHeartbeats 4000000 in
theorem refsQ_spec (a b:Rf):Spec Tryz.prog 60 [.agg a.row,.agg b.row] [] (.int .i64 (refC a b)) []:=by
 have s1:=lessQ_spec a b;have s2:=lessQ_spec b a;unfold refC;generalize lessR a b=x at *;generalize lessR b a=y at *;cases x with
 | true =>
  refine gEn env Tryz.func60 fun Γ hN hK hML=>?_;exact gR
 | false =>
  cases y with
  | true =>
   refine gEn env Tryz.func60 fun Γ hN hK hML=>?_;refine gGo ?_;(refine gPC (s1) ?_;conv=>whnf);refine gGo ?_;(refine gPC (s2) ?_;conv=>whnf);refine gGr ?_;exact ret0 rfl rfl rfl
  | false =>
   refine gEn env Tryz.func60 fun Γ hN hK hML=>?_;refine gGo ?_;(refine gPC (s1) ?_;conv=>whnf);refine gGo ?_;(refine gPC (s2) ?_;conv=>whnf);refine gGr ?_;exact ret0 rfl rfl rfl
set_option maxHeartbeats 4000000 in
theorem stepsQ_spec (a b:Stp):Spec Tryz.prog 73 [.agg a.row,.agg b.row] [] (.int .i64 (stepC a b)) []:=by
 have s1:=refsQ_spec a.fr b.fr;have s2:=refsQ_spec a.tr b.tr;have s3:=orQ_spec [refC a.fr b.fr,refC a.tr b.tr];unfold stepC;generalize refC a.fr b.fr=x at *;generalize refC a.tr b.tr=y at *;refine gEn env Tryz.func73 fun Γ hN hK hML=>?_;refine gGo ?_;(refine gPC (s1) ?_;conv=>whnf);refine gGo ?_;(refine gPC (s2) ?_;conv=>whnf);refine gGo ?_;(refine gPC (s3) ?_;conv=>whnf);refine gGr ?_;exact ret0 rfl rfl rfl
theorem lexC_both {α:Type}{c:α→α→Int}{a b:List α}{i:Nat}(ha:i<a.length) (hb:i<b.length):lexC c (a.drop i) (b.drop i)=if c a[i] b[i]=0 then lexC c (a.drop (i+1)) (b.drop (i+1)) else c a[i] b[i]:=by
 rw [List.drop_eq_getElem_cons ha,List.drop_eq_getElem_cons hb];rfl
theorem lexC_one {α:Type}{c:α→α→Int}{a b:List α}{i:Nat}(ha:i<a.length) (hb:b.length≤i):lexC c (a.drop i) (b.drop i)=1:=by
 rw [List.drop_eq_getElem_cons ha,List.drop_of_length_le hb];rfl
theorem lexC_end {α:Type}{c:α→α→Int}{a b:List α}{i:Nat}(ha:a.length≤i):lexC c (a.drop i) (b.drop i)=if i<b.length then -1 else 0:=by
 rw [List.drop_of_length_le ha];by_cases h:i<b.length
 ·rw [if_pos h,List.drop_eq_getElem_cons h];rfl
 ·rw [if_neg h,List.drop_of_length_le (by omega)];rfl
set_option maxHeartbeats 8000000 in
theorem cmpStepsQ_spec (a b:List Stp):Spec Tryz.prog 78 [.sl (stpRows a) false,.sl (stpRows b) false,.fn 73 []] [] (.int .i64 (lexC stepC a b)) []:=by
 have hal:=stpRows_len a;have hbl:=stpRows_len b;refine gEn env Tryz.func78 fun Γ hN hK hML=>?_;refine gGo ?_;intros;refine W.leG (mp:=[]) (bo:=[]) (st':=⟨[(1,.sl (stpRows b) false),(2,.fn 73 []),(0,.sl (stpRows a) false),(11,.sl (stpRows a) false),(12,.int .i64 (stpRows a).length),(13,.int .i64 (0:Nat))],[],[]⟩)
  (LeG.mq .nil) ?_
 refine W.loopG (fun m st=>∃ i:Nat,i≤a.length∧i≤b.length∧lexC stepC (a.drop i) (b.drop i)=lexC stepC a b∧m=a.length-i∧st=⟨[(1,.sl (stpRows b) false),(2,.fn 73 []),(0,.sl (stpRows a) false),(11,.sl (stpRows a) false),(12,.int .i64 (stpRows a).length),(13,.int .i64 (i:Nat))],[],[]⟩)
  a.length _ ⟨0,by omega,by omega,rfl,by omega,rfl⟩ gX ?_
 rintro m st ⟨i,hi,hib,he,rfl,rfl⟩;refine gT (fun hb=>?_) fun hb=>?_
 ·have hil:i<a.length:=by omega
  have hg:=stpRows_get hil;by_cases hbi:i<b.length
  ·have hg2:=stpRows_get hbi;have sp:=stepsQ_spec a[i] b[i];rw [lexC_both hil hbi] at he;generalize a[i]=x at *;generalize b[i]=y at *;generalize stepC x y=z at *;refine g ?_;by_cases hz:z=0
   ·rw [if_pos hz] at he;refine gGo ?_;intros;exact gZ ⟨i+1,by omega,by omega,he,rfl,rfl⟩
   ·rw [if_neg hz] at he;rw [←he];exact gR
  ·rw [lexC_one hil (by omega)] at he;rw [←he];exact gR
 ·rw [lexC_end (by omega)] at he;rw [←he];refine gGo ?_;by_cases hbi:i<b.length
  ·rw [if_pos hbi];exact gR
  ·rw [if_neg hbi];exact gR
set_option maxHeartbeats 8000000 in
theorem cmpRefsQ_spec (a b:List Rf):Spec Tryz.prog 59 [.sl (rfRows a) false,.sl (rfRows b) false,.fn 60 []] [] (.int .i64 (lexC refC a b)) []:=by
 have hal:=rfRows_len a;have hbl:=rfRows_len b;refine gEn env Tryz.func59 fun Γ hN hK hML=>?_;refine gGo ?_;intros;refine W.leG (mp:=[]) (bo:=[]) (st':=⟨[(1,.sl (rfRows b) false),(2,.fn 60 []),(0,.sl (rfRows a) false),(11,.sl (rfRows a) false),(12,.int .i64 (rfRows a).length),(13,.int .i64 (0:Nat))],[],[]⟩)
  (LeG.mq .nil) ?_
 refine W.loopG (fun m st=>∃ i:Nat,i≤a.length∧i≤b.length∧lexC refC (a.drop i) (b.drop i)=lexC refC a b∧m=a.length-i∧st=⟨[(1,.sl (rfRows b) false),(2,.fn 60 []),(0,.sl (rfRows a) false),(11,.sl (rfRows a) false),(12,.int .i64 (rfRows a).length),(13,.int .i64 (i:Nat))],[],[]⟩)
  a.length _ ⟨0,by omega,by omega,rfl,by omega,rfl⟩ gX ?_
 rintro m st ⟨i,hi,hib,he,rfl,rfl⟩;refine gT (fun hb=>?_) fun hb=>?_
 ·have hil:i<a.length:=by omega
  have hg:=rfRows_get hil;by_cases hbi:i<b.length
  ·have hg2:=rfRows_get hbi;have sp:=refsQ_spec a[i] b[i];rw [lexC_both hil hbi] at he;generalize a[i]=x at *;generalize b[i]=y at *;generalize refC x y=z at *;refine g ?_;by_cases hz:z=0
   ·rw [if_pos hz] at he;refine gGo ?_;intros;exact gZ ⟨i+1,by omega,by omega,he,rfl,rfl⟩
   ·rw [if_neg hz] at he;rw [←he];exact gR
  ·rw [lexC_one hil (by omega)] at he;rw [←he];exact gR
 ·rw [lexC_end (by omega)] at he;rw [←he];refine gGo ?_;by_cases hbi:i<b.length
  ·rw [if_pos hbi];exact gR
  ·rw [if_neg hbi];exact gR
set_option maxHeartbeats 4000000 in
theorem orderQ_spec (a b:Pth):Spec Tryz.prog 35 [.agg a.row,.agg b.row] [] (.int .i64 (ordC a b)) []:=by
 have s1:=cmpQ_spec a.start b.start;have s2:=cmpStepsQ_spec a.steps b.steps;have s3:=orQ_spec [cmpJ a.start b.start,lexC stepC a.steps b.steps];unfold ordC;generalize cmpJ a.start b.start=x at *;generalize lexC stepC a.steps b.steps=y at *;refine gEn env Tryz.func35 fun Γ hN hK hML=>?_;exact gR
end Go.Sx.Sp
namespace Go.Sx.Sp
open Go Go.Sx Go.Proofs
attribute [local irreducible] GoodW famL
structure TotC {α:Type}(c:α→α→Int):Prop where
 zero:∀ a b,c a b=0↔a=b
 anti:∀ a b,c a b<0↔0<c b a
 trans:∀ a b d,c a b<0→c b d<0→c a d<0
theorem cmpJ_tot:TotC cmpJ:=by
 refine ⟨fun a b=>?_,fun a b=>?_,fun a b d=>?_⟩<;>unfold cmpJ<;>repeat' split
 all_goals omega
theorem orL_two (x y:Int):orL [x,y]=if x=0 then y else x:=by
 unfold orL orL orL;by_cases h:y=0<;>simp [h]
theorem TotC.two {α β γ:Type}{c1:β→β→Int}{c2:γ→γ→Int}(h1:TotC c1) (h2:TotC c2) {f:α→β}{g:α→γ}(hinj:∀ a b,f a=f b→g a=g b→a=b):TotC fun a b=>orL [c1 (f a) (f b),c2 (g a) (g b)]:=by
 refine ⟨fun a b=>?_,fun a b=>?_,fun a b d=>?_⟩
 ·rw [orL_two];constructor
  ·intro h;by_cases h0:c1 (f a) (f b)=0
   ·rw [if_pos h0] at h;exact hinj a b ((h1.zero _ _).1 h0) ((h2.zero _ _).1 h)
   ·rw [if_neg h0] at h;exact absurd h h0
  ·rintro rfl;rw [if_pos ((h1.zero _ _).2 rfl)];exact (h2.zero _ _).2 rfl
 ·rw [orL_two,orL_two];by_cases h0:c1 (f a) (f b)=0
  ·have h3:=(h1.zero _ _).1 h0;rw [if_pos h0,if_pos ((h1.zero _ _).2 h3.symm)];exact h2.anti _ _
  ·have h3:¬ c1 (f b) (f a)=0:=fun e=>h0 ((h1.zero _ _).2 ((h1.zero _ _).1 e).symm);rw [if_neg h0,if_neg h3];exact h1.anti _ _
 ·simp only [orL_two];intro k1 k2;by_cases e1:c1 (f a) (f b)=0
  ·rw [if_pos e1] at k1;have e1':=(h1.zero _ _).1 e1;rw [e1'];by_cases e2:c1 (f b) (f d)=0
   ·rw [if_pos e2] at k2 ⊢;exact h2.trans _ _ _ k1 k2
   ·rw [if_neg e2] at k2 ⊢;exact k2
  ·rw [if_neg e1] at k1;by_cases e2:c1 (f b) (f d)=0
   ·have e2':=(h1.zero _ _).1 e2;rw [←e2',if_neg e1];exact k1
   ·rw [if_neg e2] at k2;have:=h1.trans _ _ _ k1 k2;rw [if_neg (by omega)];exact this
theorem refC_eq (a b:Rf):refC a b=orL [cmpJ a.t b.t,cmpJ a.c b.c]:=by
 rw [orL_two];unfold refC lessR cmpJ;by_cases h1:a.t<b.t
 ·have h2:¬ b.t<a.t:=by omega
  simp [h1]
 ·by_cases h2:b.t<a.t
  ·have h3:¬ a.t=b.t:=by omega
   simp [h1,h2,h3]
  ·have h3:a.t=b.t:=by omega
   by_cases h4:a.c<b.c
   ·simp [h3,h4]
   ·by_cases h5:b.c<a.c<;>simp [h3,h4,h5]
theorem refC_tot:TotC refC:=by
 have h:=TotC.two (α:=Rf) cmpJ_tot cmpJ_tot (f:=Rf.t) (g:=Rf.c) (fun a b h1 h2=>by cases a;cases b;simp_all);have e:refC=fun a b=>orL [cmpJ a.t b.t,cmpJ a.c b.c]:=funext fun a=>funext fun b=>refC_eq a b;rw [e];exact h
theorem stepC_tot:TotC stepC:=
 TotC.two (α:=Stp) refC_tot refC_tot (f:=Stp.fr) (g:=Stp.tr) (fun a b h1 h2=>by
  cases a;cases b
  simp only [Stp.fr,Stp.tr,Rf.mk.injEq] at h1 h2
  simp [h1,h2])
theorem lexC_zero {α:Type}{c:α→α→Int}(h:TotC c):∀ a b:List α,lexC c a b=0↔a=b
 | [],[]=>by simp [lexC]
 | [],_::_=>by simp [lexC]
 | _::_,[]=>by simp [lexC]
 | x::a,y::b=>by
  unfold lexC;by_cases h0:c x y=0
  ·rw [if_pos h0,lexC_zero h a b,(h.zero _ _).1 h0];simp
  ·rw [if_neg h0];have:x≠y:=fun e=>h0 ((h.zero _ _).2 e);simp [h0,this]
theorem lexC_anti {α:Type}{c:α→α→Int}(h:TotC c):∀ a b:List α,lexC c a b<0↔0<lexC c b a
 | [],[]=>by simp [lexC]
 | [],_::_=>by simp [lexC]
 | _::_,[]=>by simp [lexC]
 | x::a,y::b=>by
  unfold lexC;by_cases h0:c x y=0
  ·have e:=(h.zero _ _).1 h0;rw [if_pos h0,if_pos ((h.zero _ _).2 e.symm)];exact lexC_anti h a b
  ·have h3:¬ c y x=0:=fun e=>h0 ((h.zero _ _).2 ((h.zero _ _).1 e).symm);rw [if_neg h0,if_neg h3];exact h.anti _ _
theorem lexC_trans {α:Type}{c:α→α→Int}(h:TotC c):∀ a b d:List α,lexC c a b<0→lexC c b d<0→lexC c a d<0
 | _,[],[],_,h2=>by simp [lexC] at h2
 | [],_,_::_,_,_=>by simp [lexC]
 | [],_::_,[],_,h2=>by simp [lexC] at h2
 | _::_,[],_::_,h1,_=>by simp [lexC] at h1
 | _::_,_::_,[],_,h2=>by simp [lexC] at h2
 | x::a,y::b,z::d,h1,h2=>by
  unfold lexC at h1 h2 ⊢;by_cases e1:c x y=0
  ·rw [if_pos e1] at h1;rw [(h.zero _ _).1 e1];by_cases e2:c y z=0
   ·rw [if_pos e2] at h2 ⊢;exact lexC_trans h a b d h1 h2
   ·rw [if_neg e2] at h2 ⊢;exact h2
  ·rw [if_neg e1] at h1;by_cases e2:c y z=0
   ·rw [←(h.zero _ _).1 e2,if_neg e1];exact h1
   ·rw [if_neg e2] at h2;have:=h.trans _ _ _ h1 h2;rw [if_neg (by omega)];exact this
theorem lexC_tot {α:Type}{c:α→α→Int}(h:TotC c):TotC (lexC c):=⟨lexC_zero h,lexC_anti h,lexC_trans h⟩
theorem ordC_tot:TotC ordC:=
 TotC.two (α:=Pth) cmpJ_tot (lexC_tot stepC_tot) (f:=Pth.start) (g:=Pth.steps) (fun a b h1 h2=>by cases a;cases b;simp_all)
end Go.Sx.Sp
namespace Go.Sx.Sp
open Go Go.Sx Go.Proofs Go.Sort
attribute [local irreducible] GoodW famL
theorem TotC.ltOf_iff {α:Type}{c:α→α→Int}{a b:α}:ltOf c a b=true↔c a b<0:=by unfold ltOf;exact decide_eq_true_iff
theorem TotC.swo {α:Type}{c:α→α→Int}(h:TotC c):SWO (ltOf c):=by
 have h0:∀ a,c a a=0:=fun a=>(h.zero a a).2 rfl;refine ⟨fun x=>?_,fun x y z h1 h2=>?_,fun x y z h1 h2=>?_⟩
 ·unfold ltOf;rw [h0];rfl
 ·exact TotC.ltOf_iff.2 (h.trans x y z (TotC.ltOf_iff.1 h1) (TotC.ltOf_iff.1 h2))
 ·unfold ltOf at h1 h2 ⊢;rw [decide_eq_false_iff_not] at h1 h2 ⊢;intro h3;by_cases e1:c x y=0
  ·rw [(h.zero _ _).1 e1] at h3;exact h2 h3
  ·have g1:c y x<0:=(h.anti y x).2 (by omega);exact h2 (h.trans y x z g1 h3)
theorem TotC.tot {α:Type}{c:α→α→Int}(h:TotC c) (a b:α) (h1:ltOf c a b=false) (h2:ltOf c b a=false):a=b:=by
 unfold ltOf at h1 h2;rw [decide_eq_false_iff_not] at h1 h2;refine (h.zero a b).1 ?_;by_cases e:c a b=0
 ·exact e
 ·exact absurd ((h.anti b a).2 (by omega)) h2
def sortBy {α:Type}(c:α→α→Int) (l:List α):List α:=l.mergeSort fun a b=>!(ltOf c b a)
def pthRows (l:List Pth):List (List V):=l.map Pth.row
theorem sortPaths_spec (l:List Pth) (hn:l.length<4611686018427387904):Spec Tryz.prog 34 [.osl 0 0 0 (pthRows l).length (pthRows l).length,.fn 35 []] [(0,.rows 2 (pthRows l) (some []))] (.tup []) [(0,.rows 2 (pthRows (sortBy ordC l)) (some []))]:=
 sortFunc_spec Tryz.sortPath 2 (by decide) Tryz.isAgg47 Tryz.sizeOf47 Pth.row (fun _=>rfl) ordC ordC_tot.swo ordC_tot.tot 35 [] (fun u hu=>by cases hu) orderQ_spec l hn
theorem sortSteps_spec (l:List Stp) (hn:l.length<4611686018427387904):Spec Tryz.prog 72 [.osl 0 0 0 (stpRows l).length (stpRows l).length,.fn 73 []] [(0,.rows 4 (stpRows l) (some []))] (.tup []) [(0,.rows 4 (stpRows (sortBy stepC l)) (some []))]:=
 sortFunc_spec Tryz.sortStep 4 (by decide) Tryz.isAgg99 Tryz.sizeOf99 Stp.row (fun _=>rfl) stepC stepC_tot.swo stepC_tot.tot 73 [] (fun u hu=>by cases hu) stepsQ_spec l hn
def AscC {α:Type}(c:α→α→Int) (l:List α):Prop:=l.Pairwise fun a b=>c a b<0
theorem TotC.irr {α:Type}{c:α→α→Int}(h:TotC c) (a:α):¬ c a a<0:=fun h1=>by
 have:=(h.zero a a).2 rfl;omega
theorem TotC.ne {α:Type}{c:α→α→Int}(h:TotC c) {a b:α}(h1:c a b<0):a≠b:=fun e=>by
 subst e;exact h.irr a h1
theorem TotC.tri {α:Type}{c:α→α→Int}(h:TotC c) (a b:α):c a b<0∨a=b∨c b a<0:=by
 by_cases h0:c a b=0
 ·exact .inr (.inl ((h.zero a b).1 h0))
 ·by_cases h1:c a b<0
  ·exact .inl h1
  ·exact .inr (.inr ((h.anti b a).2 (by omega)))
theorem AscC.nodup {α:Type}{c:α→α→Int}(h:TotC c) {l:List α}(ha:AscC c l):l.Nodup:=List.Pairwise.imp (fun h1=>h.ne h1) ha
theorem ascC_ext {α:Type}{c:α→α→Int}(h:TotC c):∀ {l m:List α},AscC c l→AscC c m→(∀ x,x∈l↔x∈m)→l=m
 | [],[],_,_,_=>rfl
 | [],b::m,_,_,hx=>by have:=(hx b).2 (by simp);cases this
 | a::l,[],_,_,hx=>by have:=(hx a).1 (by simp);cases this
 | a::l,b::m,hl,hm,hx=>by
  obtain ⟨l1,l2⟩:=List.pairwise_cons.1 hl;obtain ⟨m1,m2⟩:=List.pairwise_cons.1 hm;have e:a=b:=by
   have h1:=(hx a).1 (by simp);have h2:=(hx b).2 (by simp);rcases List.mem_cons.1 h1 with h1 | h1
   ·exact h1
   ·rcases List.mem_cons.1 h2 with h2 | h2
    ·exact h2.symm
    ·exact absurd (h.trans _ _ _ (l1 b h2) (m1 a h1)) (h.irr a)
  subst e;have:l=m:=ascC_ext h l2 m2 fun x=>by
   constructor
   ·intro hxl;have:=(hx x).1 (by simp [hxl]);rcases List.mem_cons.1 this with e | h1
    ·subst e;exact absurd (l1 x hxl) (h.irr x)
    ·exact h1
   ·intro hxm;have:=(hx x).2 (by simp [hxm]);rcases List.mem_cons.1 this with e | h1
    ·subst e;exact absurd (m1 x hxm) (h.irr x)
    ·exact h1
  rw [this]
def plcC {α:Type}(c:α→α→Int) (l:List α) (x:α):Nat→Nat
 | 0=>0
 | i+1=>match l[i]? with
  | some y=>if c x y<0 then plcC c l x i else i+1
  | none=>i+1
theorem plcC_le {α:Type}(c:α→α→Int) (l:List α) (x:α):∀ n,plcC c l x n≤n
 | 0=>Nat.le_refl _
 | i+1=>by
  have:=plcC_le c l x i;unfold plcC;split
  ·split<;>omega
  ·omega
theorem plcC_hi {α:Type}{c:α→α→Int}{l:List α}{x:α}:∀ n,∀ j y,plcC c l x n≤j→j<n→l[j]?=some y→c x y<0
 | 0,j,y,_,h2,_=>by omega
 | i+1,j,y,h1,h2,h3=>by
  unfold plcC at h1;split at h1
  ·rename_i z hz;split at h1
   ·rename_i hlt;by_cases e:j=i
    ·subst e;rw [hz] at h3;cases h3;exact hlt
    ·exact plcC_hi i j y h1 (by omega) h3
   ·omega
  ·omega
theorem plcC_lo {α:Type}{c:α→α→Int}{l:List α}{x:α}:∀ n i y,plcC c l x n=i+1→l[i]?=some y→¬ c x y<0
 | 0,i,y,h1,_=>by cases h1
 | n+1,i,y,h1,h2=>by
  unfold plcC at h1;split at h1
  ·rename_i z hz;split at h1
   ·exact plcC_lo n i y h1 h2
   ·rename_i hn;have:n=i:=by omega
    subst this;rw [hz] at h2;cases h2;exact hn
  ·rename_i hz;have:n=i:=by omega
   subst this;rw [hz] at h2;cases h2
def insC {α:Type}(c:α→α→Int) (l:List α) (x:α):List α:=l.take (plcC c l x l.length)++x::l.drop (plcC c l x l.length)
def hasC {α:Type}(c:α→α→Int) (l:List α) (x:α):Bool:=match plcC c l x l.length with
 | 0=>false
 | i+1=>match l[i]? with
  | some y=>decide (c x y=0)
  | none=>false
def putZ {α:Type}(c:α→α→Int) (l:List α) (x:α):List α:=if hasC c l x=true then l else insC c l x
theorem sortBy_perm {α:Type}(c:α→α→Int) (l:List α):(sortBy c l).Perm l:=List.mergeSort_perm _ _
theorem sortBy_len {α:Type}(c:α→α→Int) (l:List α):(sortBy c l).length=l.length:=(sortBy_perm c l).length_eq
theorem sortBy_mem {α:Type}(c:α→α→Int) {l:List α}{x:α}:x∈sortBy c l↔x∈l:=(sortBy_perm c l).mem_iff
theorem sortBy_weak {α:Type}{c:α→α→Int}(h:TotC c) (l:List α):(sortBy c l).Pairwise fun a b=>¬ c b a<0:=by
 refine (List.pairwise_mergeSort (le:=fun a b=>!(ltOf c b a)) ?_ ?_ l).imp ?_
 ·intro a b d h1 h2;unfold ltOf at *;simp only [Bool.not_eq_true',decide_eq_false_iff_not] at h1 h2 ⊢;intro h3;rcases h.tri a b with g | g | g
  ·exact h2 (h.trans _ _ _ h3 g)
  ·subst g;exact h2 h3
  ·exact h1 g
 ·intro a b;unfold ltOf;rcases h.tri a b with g | g | g
  ·have:¬ c b a<0:=fun g2=>h.irr _ (h.trans _ _ _ g g2);simp [this]
  ·subst g;simp [h.irr]
  ·have:¬ c a b<0:=fun g2=>h.irr _ (h.trans _ _ _ g g2);simp [this]
 ·intro a b h1;unfold ltOf at h1;simpa using h1
theorem sortBy_asc {α:Type}{c:α→α→Int}(h:TotC c) {l:List α}(hn:l.Nodup):AscC c (sortBy c l):=by
 have h1:=sortBy_weak h l;have h2:(sortBy c l).Nodup:=(sortBy_perm c l).nodup_iff.2 hn;unfold AscC;refine List.Pairwise.imp₂ (fun a b g1 g2=>?_) h1 h2;rcases h.tri a b with g | g | g
 ·exact g
 ·exact absurd g g2
 ·exact absurd g g1
section
variable {α σ:Type}(c:α→α→Int) (M:Nat) (nx:σ→List σ) (fin:σ→Bool) (isP:σ→Option α)
def putO (o:Option α) (out:List α):List α:=match o with
 | some p=>putZ c out p
 | none=>out
end
section
variable {α σ:Type}{c:α→α→Int}{M:Nat}{nx:σ→List σ}{fin:σ→Bool}{isP:σ→Option α}
end
def simL (W:Int→List Stp) (dst from_:Int):Nat→List Stp→Int→List Pth
 | 0,way,at_=>if at_=dst then [⟨from_,way⟩] else []
 | k+1,way,at_=>if at_=dst then [⟨from_,way⟩] else (W at_).flatMap fun s=>if s.tt∈from_::way.map Stp.tt then [] else simL W dst from_ k (way++[s]) s.tt
def goB (F:Int→Option Nat) (from_:Int) (k enough:Nat) (way:List Stp) (s:Stp) (out:List Pth):Bool:=match F s.tt with
 | none=>false
 | some n=>!decide (s.tt∈from_::way.map Stp.tt)&&decide (n≤k)&&decide (out.length≤enough)
def visM (W:Int→List Stp) (F:Int→Option Nat) (dst from_:Int) (enough:Nat):Nat→List Stp→Int→List Pth→List Pth
 | 0,way,at_,out=>if at_=dst then out++[⟨from_,way⟩] else out
 | k+1,way,at_,out=>if at_=dst then out++[⟨from_,way⟩] else (W at_).foldl (fun o s=>if goB F from_ k enough way s o=true then visM W F dst from_ enough k (way++[s]) s.tt o else o) out
structure FarOK (W:Int→List Stp) (F:Int→Option Nat) (dst:Int):Prop where
 goal:F dst=some 0
 step:∀ t n s,F t=some n→s∈W t→∃ m,F s.tt=some m∧m≤n+1
 sym:∀ t s,s∈W t→∃ s',s'∈W s.tt∧s'.tt=t
theorem simL_far {W:Int→List Stp}{F:Int→Option Nat}{dst from_:Int}(h:FarOK W F dst):∀ (k:Nat) (way:List Stp) (at_:Int),simL W dst from_ k way at_≠[]→∃ n,F at_=some n∧n≤k
 | 0,way,at_,hn=>by
  unfold simL at hn;by_cases e:at_=dst
  ·subst e;exact ⟨0,h.goal,Nat.le_refl _⟩
  ·rw [if_neg e] at hn;exact absurd rfl hn
 | k+1,way,at_,hn=>by
  unfold simL at hn;by_cases e:at_=dst
  ·subst e;exact ⟨0,h.goal,Nat.zero_le _⟩
  ·rw [if_neg e] at hn;obtain ⟨x,hx⟩:=List.exists_mem_of_ne_nil _ hn;obtain ⟨s,hs,hx⟩:=List.mem_flatMap.1 hx;split at hx
   ·cases hx
   ·obtain ⟨n,h1,h2⟩:=simL_far h k (way++[s]) s.tt (List.ne_nil_of_mem hx);obtain ⟨s',hs',hb⟩:=h.sym at_ s hs;obtain ⟨m,h3,h4⟩:=h.step _ n s' h1 hs';rw [hb] at h3;exact ⟨m,h3,by omega⟩
theorem take_app_take {α:Type}(a b:List α) (n:Nat):((a.take n)++b).take n=(a++b).take n:=by
 rw [List.take_append,List.take_append,List.take_take,List.length_take,Nat.min_self];by_cases h:n≤a.length
 ·rw [Nat.min_eq_left h,Nat.sub_self,show n-a.length=0 by omega]
 ·rw [Nat.min_eq_right (by omega)]
theorem visM_eq {W:Int→List Stp}{F:Int→Option Nat}{dst from_:Int}{enough:Nat}(h:FarOK W F dst):∀ (k:Nat) (way:List Stp) (at_:Int) (out:List Pth),out.length≤enough→visM W F dst from_ enough k way at_ out=(out++simL W dst from_ k way at_).take (enough+1)
 | 0,way,at_,out,ho=>by
  unfold visM simL;split
  ·rw [List.take_of_length_le (by simp;omega)]
  ·rw [List.take_of_length_le (by simp;omega),List.append_nil]
 | k+1,way,at_,out,ho=>by
  unfold visM simL;split
  ·rw [List.take_of_length_le (by simp;omega)]
  ·have hfold:∀ (l:List Stp) (o:List Pth),o.length≤enough+1→l.foldl (fun o s=>if goB F from_ k enough way s o=true then visM W F dst from_ enough k (way++[s]) s.tt o else o) o=(o++l.flatMap fun s=>if s.tt∈from_::way.map Stp.tt then [] else simL W dst from_ k (way++[s]) s.tt).take (enough+1):=by
    intro l
    induction l with
    | nil=>intro o hl;simp [List.take_of_length_le hl]
    | cons s l ih =>
     intro o hl;rw [List.foldl_cons,List.flatMap_cons];have key:(if goB F from_ k enough way s o=true then visM W F dst from_ enough k (way++[s]) s.tt o else o)=(o++if s.tt∈from_::way.map Stp.tt then [] else simL W dst from_ k (way++[s]) s.tt).take (enough+1):=by
      by_cases hm:s.tt∈from_::way.map Stp.tt
      ·have hg:goB F from_ k enough way s o=false:=by
        unfold goB;split
        ·rfl
        ·rw [decide_eq_true hm];simp
       rw [hg,if_neg (by decide),if_pos hm,List.append_nil,List.take_of_length_le hl]
      ·rw [if_neg hm];by_cases hle:o.length≤enough
       ·by_cases hf:∃ n,F s.tt=some n∧n≤k
        ·obtain ⟨n,h1,h2⟩:=hf;have hg:goB F from_ k enough way s o=true:=by
          unfold goB;rw [h1];simp only [decide_eq_false hm,decide_eq_true h2,decide_eq_true hle];rfl
         rw [hg,if_pos rfl,visM_eq h k _ _ _ hle]
        ·have hg:goB F from_ k enough way s o=false:=by
          unfold goB;split
          ·rfl
          ·rename_i n hn;rw [decide_eq_false fun h2=>hf ⟨n,hn,h2⟩];simp
         have he:simL W dst from_ k (way++[s]) s.tt=[]:=by
          by_cases e:simL W dst from_ k (way++[s]) s.tt=[]
          ·exact e
          ·exact absurd (simL_far h k _ _ e) hf
         rw [hg,if_neg (by decide),he,List.append_nil,List.take_of_length_le hl]
       ·have hg:goB F from_ k enough way s o=false:=by
         unfold goB;split
         ·rfl
         ·rw [decide_eq_false hle];simp
        have h2:enough+1=o.length:=by omega
        rw [hg,if_neg (by decide),h2,List.take_left]
     rw [key,ih _ (by rw [List.length_take];omega),take_app_take,List.append_assoc]
   exact hfold _ _ (by omega)
theorem simL_pre {W:Int→List Stp}{dst from_:Int}:∀ (k:Nat) (way:List Stp) (at_:Int) (x:Pth),x∈simL W dst from_ k way at_→x.start=from_∧way <+: x.steps∧x.steps.length≤way.length+k
 | 0,way,at_,x,hx=>by
  unfold simL at hx;split at hx
  ·simp only [List.mem_singleton] at hx;subst hx;exact ⟨rfl,List.prefix_refl _,Nat.le_refl _⟩
  ·cases hx
 | k+1,way,at_,x,hx=>by
  unfold simL at hx;split at hx
  ·simp only [List.mem_singleton] at hx;subst hx;exact ⟨rfl,List.prefix_refl _,by simp⟩
  ·obtain ⟨s,hs,hx⟩:=List.mem_flatMap.1 hx;split at hx
   ·cases hx
   ·obtain ⟨h1,h2,h3⟩:=simL_pre k _ _ x hx;refine ⟨h1,(List.prefix_append _ _).trans h2,?_⟩;rw [List.length_append,List.length_singleton] at h3;omega
theorem simL_nodup {W:Int→List Stp}{dst from_:Int}(hW:∀ t,(W t).Nodup):∀ (k:Nat) (way:List Stp) (at_:Int),(simL W dst from_ k way at_).Nodup
 | 0,way,at_=>by unfold simL;split<;>simp
 | k+1,way,at_=>by
  unfold simL;split
  ·simp
  ·rw [List.nodup_iff_pairwise_ne,List.pairwise_flatMap];refine ⟨fun s hs=>?_,(List.nodup_iff_pairwise_ne.1 (hW at_)).imp fun {s t} hne x hx y hy e=>?_⟩
   ·rw [←List.nodup_iff_pairwise_ne];split
    ·simp
    ·exact simL_nodup hW k _ _
   ·subst e;split at hx
    ·cases hx
    ·split at hy
     ·cases hy
     ·obtain ⟨_,h1,_⟩:=simL_pre k _ _ x hx;obtain ⟨_,h2,_⟩:=simL_pre k _ _ x hy;have h3:=List.prefix_of_prefix_length_le h1 h2 (by simp);obtain ⟨r,hr⟩:=h3;have h4:=congrArg List.length hr;simp at h4;subst h4;rw [List.append_nil] at hr;have:=List.append_cancel_left hr;simp at this;exact hne this
end Go.Sx.Sp
namespace Go.Sx.Sp
open Go Go.Sx Go.Proofs Go.Sort
attribute [local irreducible] GoodW famL
abbrev BunS:=List (Int×List Stp)
def keysS {α:Type}(T:List (Int×α)):List Int:=T.map (·.1)
def lookS (T:BunS) (s:Int):List Stp:=match ixI s (keysS T) with | some j=>(T.getD j (0,[])).2 | none=>[]
def addZ (T:BunS) (s:Int) (x:Stp):BunS:=match ixI s (keysS T) with | some j=>T.set j (s,lookS T s++[x]) | none=>T++[(s,[x])]
theorem ixI_smz {s:Int}:∀ {l:List Int}{j:Nat},ixI s l=some j→l[j]?=some s
 | [],j,h=>by cases h
 | u::l,j,h=>by
  by_cases e:s=u
  ·simp only [ixI,e,if_true,Option.some.injEq] at h;subst h;simp [e]
  ·simp only [ixI,e,if_false,Option.map_eq_some_iff] at h;obtain ⟨q,hq,rfl⟩:=h;simpa using ixI_smz hq
theorem ixI_apz {s u:Int}:∀ {l:List Int}{j:Nat},ixI s l=some j→ixI s (l++[u])=some j
 | [],j,h=>by cases h
 | v::l,j,h=>by
  by_cases e:s=v
  ·simp only [ixI,e,if_true,List.cons_append] at h ⊢;exact h
  ·simp only [ixI,e,if_false,Option.map_eq_some_iff,List.cons_append] at h ⊢;obtain ⟨q,hq,rfl⟩:=h;exact ⟨q,ixI_apz hq,rfl⟩
theorem ixI_nwz {s:Int}:∀ {l:List Int},s∉l→ixI s (l++[s])=some l.length
 | [],_=>by simp [ixI]
 | v::l,h=>by
  have h1:¬ s=v:=fun e=>h (by simp [e]);simp [ixI,h1,ixI_nwz (s:=s) (l:=l) (fun hm=>h (List.mem_cons_of_mem _ hm))]
theorem ixI_getS {α:Type}{T:List (Int×α)}{s:Int}{j:Nat}(h:ixI s (keysS T)=some j):∃ v,T[j]?=some (s,v):=by
 have h1:=ixI_smz h;unfold keysS at h1;rw [List.getElem?_map,Option.map_eq_some_iff] at h1;obtain ⟨⟨a,v⟩,h2,h3⟩:=h1;simp only at h3;subst h3;exact ⟨v,h2⟩
theorem lookS_at {T:BunS}{s:Int}{j:Nat}(h:ixI s (keysS T)=some j):T[j]?=some (s,lookS T s):=by
 obtain ⟨v,hv⟩:=ixI_getS h;unfold lookS;rw [h,hv];simp [List.getD_eq_getElem?_getD,hv]
theorem lookS_none {T:BunS}{s:Int}(h:ixI s (keysS T)=none):lookS T s=[]:=by unfold lookS;rw [h]
theorem addZ_some {T:BunS}{s:Int}{x:Stp}{j:Nat}(h:ixI s (keysS T)=some j):addZ T s x=T.set j (s,lookS T s++[x]):=by unfold addZ;rw [h]
theorem addZ_none {T:BunS}{s:Int}{x:Stp}(h:ixI s (keysS T)=none):addZ T s x=T++[(s,[x])]:=by unfold addZ;rw [h]
theorem addZ_len (T:BunS) (s:Int) (x:Stp):(addZ T s x).length≤T.length+1:=by
 unfold addZ;split<;>simp
theorem addZ_keys {T:BunS}{s:Int}{x:Stp}{j:Nat}(h:ixI s (keysS T)=some j):keysS (addZ T s x)=keysS T:=by
 rw [addZ_some h];have hg:=lookS_at h;unfold keysS;rw [List.map_set];apply List.ext_getElem?;intro k;rw [List.getElem?_set];by_cases e:j=k
 ·subst e;have hj:=ixI_lt h;rw [if_pos rfl,if_pos (by rw [List.length_map];simpa [keysS] using hj),List.getElem?_map,hg];rfl
 ·rw [if_neg e]
theorem lookS_add (T:BunS) (s u:Int) (x:Stp):lookS (addZ T s x) u=if u=s then lookS T s++[x] else lookS T u:=by
 cases h:ixI s (keysS T) with
 | none =>
  rw [addZ_none h,lookS_none h];have hs:=ixI_none.1 h;have hk:keysS (T++[(s,[x])])=keysS T++[s]:=by simp [keysS]
  unfold lookS;rw [hk];cases hu:ixI u (keysS T) with
  | none =>
   by_cases e:u=s
   ·subst e;rw [ixI_nwz hs,if_pos rfl];simp [keysS]
   ·have:ixI u (keysS T++[s])=none:=ixI_none.2 (by simp [ixI_none.1 hu,e]);rw [this,if_neg e]
  | some j =>
   have hj:=ixI_lt hu;have hj2:j<T.length:=by simpa [keysS] using hj
   have hne:¬ u=s:=fun e=>by subst e;rw [h] at hu;cases hu
   rw [ixI_apz hu,if_neg hne];simp [List.getD_eq_getElem?_getD,List.getElem?_append_left hj2]
 | some j =>
  have hk:=addZ_keys (x:=x) h;rw [addZ_some h] at hk ⊢;have hj:=ixI_lt h;have hj2:j<T.length:=by simpa [keysS] using hj
  have hg:=lookS_at h;generalize lookS T s=L at *;unfold lookS;rw [hk];by_cases e:u=s
  ·subst e;rw [h,if_pos rfl];simp [List.getD_eq_getElem?_getD,hj2]
  ·rw [if_neg e];cases hu:ixI u (keysS T) with
   | none=>rfl
   | some q =>
    have hne:j≠q:=fun e2=>by
     subst e2;have h1:=ixI_smz h;have h2:=ixI_smz hu;rw [h1] at h2;cases h2;exact e rfl
    simp [List.getD_eq_getElem?_getD,List.getElem?_set,hne]
def revS (s:Stp):Stp:=⟨s.tt,s.tc,s.ft,s.fc⟩
def okE (l:List Table) (s:Stp):Bool:=(getC l s.ft s.fc).isSome&&(getC l s.tt s.tc).isSome&&!decide (s.ft=s.tt)
def addE (l:List Table) (T:BunS) (s:Stp):BunS:=if okE l s=true then addZ (addZ T s.ft s) s.tt (revS s) else T
def rawW (l:List Table) (E:List Stp):BunS:=E.foldl (addE l) []
theorem rawW_snoc (l:List Table) (E:List Stp) (s:Stp):rawW l (E++[s])=addE l (rawW l E) s:=by unfold rawW;rw [List.foldl_append];rfl
theorem lookS_addE (l:List Table) (T:BunS) (s:Stp) (t:Int):lookS (addE l T s) t=lookS T t++(if okE l s=true then (if s.ft=t then [s] else if s.tt=t then [revS s] else []) else []):=by
 unfold addE;split
 ·rename_i h;have hne:¬ s.ft=s.tt:=by
   unfold okE at h;simp only [Bool.and_eq_true,Bool.not_eq_true',decide_eq_false_iff_not] at h;exact h.2
  rw [lookS_add,lookS_add];by_cases e:t=s.tt
  ·subst e;rw [if_pos rfl,if_neg (Ne.symm hne),if_neg hne,if_pos rfl]
  ·rw [if_neg e];by_cases e2:t=s.ft
   ·subst e2;rw [if_pos rfl,lookS_add,if_pos rfl]
   ·rw [lookS_add,if_neg e2,if_neg (Ne.symm e2),if_neg (Ne.symm e),List.append_nil]
 ·rw [List.append_nil]
theorem rawW_mem (l:List Table) (t:Int) (x:Stp):∀ (E:List Stp) (T:BunS),x∈lookS (E.foldl (addE l) T) t↔x∈lookS T t∨∃ s∈E,okE l s=true∧((s.ft=t∧x=s)∨(s.tt=t∧x=revS s))
 | [],T=>by simp
 | s::E,T=>by
  rw [List.foldl_cons,rawW_mem l t x E,lookS_addE,List.mem_append,or_assoc];refine or_congr Iff.rfl ?_;have hne:okE l s=true→¬ s.ft=s.tt:=fun h=>by
   unfold okE at h;simp only [Bool.and_eq_true,Bool.not_eq_true',decide_eq_false_iff_not] at h;exact h.2
  constructor
  ·rintro (h | ⟨s',h1,h2⟩)
   ·split at h
    ·rename_i ho;split at h
     ·rename_i e;simp only [List.mem_singleton] at h;exact ⟨s,by simp,ho,.inl ⟨e,h⟩⟩
     ·split at h
      ·rename_i e;simp only [List.mem_singleton] at h;exact ⟨s,by simp,ho,.inr ⟨e,h⟩⟩
      ·cases h
    ·cases h
   ·exact ⟨s',by simp [h1],h2⟩
  ·rintro ⟨s',h1,h2,h3⟩;rcases List.mem_cons.1 h1 with rfl | h1
   ·refine .inl ?_;rw [if_pos h2];rcases h3 with ⟨e,rfl⟩ | ⟨e,rfl⟩
    ·rw [if_pos e];simp
    ·rw [if_neg (fun e2=>hne h2 (e2.trans e.symm)),if_pos e];simp
   ·exact .inr ⟨s',h1,h2,h3⟩
theorem rawW_len (l:List Table):∀ (E:List Stp) (T:BunS),(E.foldl (addE l) T).length≤T.length+2*E.length
 | [],T=>by simp
 | s::E,T=>by
  have h1:=rawW_len l E (addE l T s);have h2:(addE l T s).length≤T.length+2:=by
   unfold addE;split
   ·have:=addZ_len (addZ T s.ft s) s.tt (revS s);have:=addZ_len T s.ft s;omega
   ·omega
  rw [List.foldl_cons,List.length_cons];omega
theorem rawW_llen (l:List Table) (t:Int):∀ (E:List Stp) (T:BunS),(lookS (E.foldl (addE l) T) t).length≤(lookS T t).length+E.length
 | [],T=>by simp
 | s::E,T=>by
  have h1:=rawW_llen l t E (addE l T s);have h2:(lookS (addE l T s) t).length≤(lookS T t).length+1:=by
   rw [lookS_addE,List.length_append];split
   ·split
    ·simp
    ·split<;>simp
   ·simp
  rw [List.foldl_cons,List.length_cons];omega
theorem addZ_nd {T:BunS}(h:(keysS T).Nodup) (s:Int) (x:Stp):(keysS (addZ T s x)).Nodup:=by
 cases hx:ixI s (keysS T) with
 | some j=>rw [addZ_keys hx];exact h
 | none =>
  rw [addZ_none hx];have:=ixI_none.1 hx;rw [show keysS (T++[(s,[x])])=keysS T++[s] by simp [keysS]];rw [List.nodup_append];exact ⟨h,by simp,fun a ha b hb=>by simp at hb;subst hb;exact fun e=>this (e ▸ ha)⟩
theorem rawW_nd (l:List Table):∀ (E:List Stp) (T:BunS),(keysS T).Nodup→(keysS (E.foldl (addE l) T)).Nodup
 | [],T,h=>h
 | s::E,T,h=>by
  rw [List.foldl_cons];refine rawW_nd l E _ ?_;unfold addE;split
  ·exact addZ_nd (addZ_nd h _ _) _ _
  ·exact h
def dedK (L:List Stp):Nat→List Stp
 | 0=>[]
 | i+1=>dedK L i++match L[i]? with
  | none=>[]
  | some x=>if i=0∨L[i-1]?≠some x then [x] else []
theorem dedK_len (L:List Stp):∀ n,(dedK L n).length≤n
 | 0=>Nat.le_refl _
 | n+1=>by
  have:=dedK_len L n;unfold dedK;rw [List.length_append];split
  ·simp;omega
  ·split<;>simp<;>omega
theorem dedK_sub (L:List Stp):∀ n,∀ x∈dedK L n,x∈L.take n
 | 0,x,h=>by cases h
 | n+1,x,h=>by
  unfold dedK at h;rcases List.mem_append.1 h with h | h
  ·have:=dedK_sub L n x h;exact (List.take_subset_take_left L (Nat.le_succ n)) this
  ·split at h
   ·cases h
   ·rename_i y hy;split at h
    ·simp only [List.mem_singleton] at h;subst h;rw [List.mem_iff_getElem?];exact ⟨n,by rw [List.getElem?_take_of_lt (by omega)];exact hy⟩
    ·cases h
theorem dedK_sup (L:List Stp):∀ n,∀ x∈L.take n,x∈dedK L n
 | 0,x,h=>by simp at h
 | n+1,x,h=>by
  unfold dedK;obtain ⟨j,hj⟩:=List.getElem?_of_mem h;rw [List.getElem?_take] at hj;split at hj
  ·rename_i hlt;by_cases e:j=n
   ·subst e;rw [hj];simp only;split
    ·simp
    ·rename_i hn;have h1:¬ j=0∧L[j-1]?=some x:=⟨fun e=>hn (.inl e),Classical.byContradiction fun e=>hn (.inr e)⟩
     refine List.mem_append.2 (.inl (dedK_sup L j x ?_));rw [List.mem_iff_getElem?];exact ⟨j-1,by rw [List.getElem?_take_of_lt (by omega)];exact h1.2⟩
   ·refine List.mem_append.2 (.inl (dedK_sup L n x ?_));rw [List.mem_iff_getElem?];exact ⟨j,by rw [List.getElem?_take_of_lt (by omega)];exact hj⟩
  ·cases hj
theorem dedK_asc {L:List Stp}(h:TotC stepC) (hw:L.Pairwise fun a b=>¬ stepC b a<0):∀ n,AscC stepC (dedK L n)
 | 0=>List.Pairwise.nil
 | n+1=>by
  have ih:=dedK_asc h hw n;unfold dedK;split
  ·simpa using ih
  ·rename_i x hx;split
   ·rename_i hc;unfold AscC at *;rw [List.pairwise_append];refine ⟨ih,by simp,fun a ha b hb=>?_⟩;simp only [List.mem_singleton] at hb;subst hb;obtain ⟨j,hj⟩:=List.getElem?_of_mem (dedK_sub L n a ha);rw [List.getElem?_take] at hj;split at hj
    ·rename_i hjn;have hnl:=(List.getElem?_eq_some_iff.1 hx).1;have hne:=(List.getElem?_eq_some_iff.1 hx).2;have hjl:=(List.getElem?_eq_some_iff.1 hj).1;have hje:=(List.getElem?_eq_some_iff.1 hj).2;have hp:=List.pairwise_iff_getElem.1 hw;rcases hc with e | hc
     ·omega
     ·have hl1:n-1<L.length:=by omega
      have hne1:L[n-1]≠b:=fun e=>hc (by rw [List.getElem?_eq_getElem hl1,e]);have h1:=hp (n-1) n hl1 hnl (by omega);rw [hne] at h1;have h2:stepC L[n-1] b<0:=by
       rcases h.tri L[n-1] b with g | g | g
       ·exact g
       ·exact absurd g hne1
       ·exact absurd g h1
      by_cases e:j=n-1
      ·subst e;rw [←hje];exact h2
      ·have h3:=hp j (n-1) hjl hl1 (by omega);rw [hje] at h3;rcases h.tri a L[n-1] with g | g | g
       ·exact h.trans _ _ _ g h2
       ·rw [g];exact h2
       ·exact absurd g h3
    ·cases hj
   ·simpa using ih
def finS (L:List Stp):List Stp:=dedK (sortBy stepC L) (sortBy stepC L).length
theorem finS_mem {L:List Stp}{x:Stp}:x∈finS L↔x∈L:=by
 unfold finS;constructor
 ·intro h;have:=dedK_sub _ _ x h;rw [List.take_length] at this;exact (sortBy_mem stepC).1 this
 ·intro h;refine dedK_sup _ _ x ?_;rw [List.take_length];exact (sortBy_mem stepC).2 h
theorem finS_len (L:List Stp):(finS L).length≤L.length:=by
 have:=dedK_len (sortBy stepC L) (sortBy stepC L).length;rw [sortBy_len] at this;unfold finS;rw [sortBy_len];exact this
def waysM (l:List Table) (E:List Stp):BunS:=(rawW l E).map fun p=>(p.1,finS p.2)
theorem lookS_map (T:BunS) (f:List Stp→List Stp) (hf:f []=[]) (t:Int):lookS (T.map fun p=>(p.1,f p.2)) t=f (lookS T t):=by
 have hk:keysS (T.map fun p=>(p.1,f p.2))=keysS T:=by simp [keysS]
 unfold lookS;rw [hk];cases h:ixI t (keysS T) with
 | none=>exact hf.symm
 | some j =>
  obtain ⟨v,hv⟩:=ixI_getS h;simp [List.getD_eq_getElem?_getD,hv]
def wayW (l:List Table) (E:List Stp) (t:Int):List Stp:=lookS (waysM l E) t
theorem finS_nil:finS []=[]:=by simp [finS,sortBy,dedK]
theorem wayW_eq (l:List Table) (E:List Stp) (t:Int):wayW l E t=finS (lookS (rawW l E) t):=lookS_map _ finS finS_nil t
theorem wayW_mem {l:List Table}{E:List Stp}{t:Int}{x:Stp}:x∈wayW l E t↔∃ s∈E,okE l s=true∧((s.ft=t∧x=s)∨(s.tt=t∧x=revS s)):=by
 rw [wayW_eq,finS_mem];unfold rawW;rw [rawW_mem];simp [lookS,keysS,ixI]
theorem wayW_nd (h:TotC stepC) (l:List Table) (E:List Stp) (t:Int):(wayW l E t).Nodup:=by
 rw [wayW_eq];exact (dedK_asc h (sortBy_weak h _) _).nodup h
theorem wayW_len (l:List Table) (E:List Stp) (t:Int):(wayW l E t).length≤E.length:=by
 rw [wayW_eq];refine Nat.le_trans (finS_len _) ?_;have:=rawW_llen l t E [];simpa [rawW,lookS,keysS,ixI] using this
theorem wayW_ft {l:List Table}{E:List Stp}{t:Int}{x:Stp}(h:x∈wayW l E t):x.ft=t:=by
 obtain ⟨s,_,_,h | h⟩:=wayW_mem.1 h
 ·rw [h.2];exact h.1
 ·rw [h.2];exact h.1
theorem wayW_sym {l:List Table}{E:List Stp}{t:Int}{x:Stp}(h:x∈wayW l E t):revS x∈wayW l E x.tt:=by
 obtain ⟨s,h1,h2,h3 | h3⟩:=wayW_mem.1 h
 ·obtain ⟨h4,rfl⟩:=h3;exact wayW_mem.2 ⟨x,h1,h2,.inr ⟨rfl,rfl⟩⟩
 ·obtain ⟨h4,rfl⟩:=h3;exact wayW_mem.2 ⟨s,h1,h2,.inl ⟨rfl,rfl⟩⟩
abbrev Dist:=List (Int×Nat)
def farS (n:Nat) (D:Dist) (s:Stp):Dist:=if s.tt∈keysS D then D else D++[(s.tt,n+1)]
def farT (W:Int→List Stp) (D:Dist) (i:Nat):Dist:=match D[i]? with
 | none=>D
 | some q=>(W q.1).foldl (farS q.2) D
def farR (W:Int→List Stp):Nat→Nat→Dist→Dist
 | 0,i,D=>D
 | k+1,i,D=>if i<D.length then farR W k (i+1) (farT W D i) else D
def lookD (D:Dist) (t:Int):Option Nat:=(ixI t (keysS D)).map fun j=>(D.getD j (0,0)).2
structure FarI (W:Int→List Stp) (U:List Int) (goal:Int) (i:Nat) (D:Dist):Prop where
 head:D[0]?=some (goal,0)
 nd:(keysS D).Nodup
 sub:∀ t∈keysS D,t∈U
 le:i≤D.length
 mono:D.Pairwise fun a b=>a.2≤b.2
 last:∀ q,D[i]?=some q→∀ p∈D,p.2≤q.2+1
 done:∀ j q,j<i→D[j]?=some q→∀ s∈W q.1,∃ m,lookD D s.tt=some m∧m≤q.2+1
theorem lookD_app {D:Dist}{t:Int}{m:Nat}(h:lookD D t=some m) (E:Dist):lookD (D++E) t=some m:=by
 unfold lookD at *;rw [Option.map_eq_some_iff] at h ⊢;obtain ⟨j,hj,rfl⟩:=h;have hjl:=ixI_lt hj;have hjl2:j<D.length:=by simpa [keysS] using hjl
 refine ⟨j,?_,by simp [List.getD_eq_getElem?_getD,List.getElem?_append_left hjl2]⟩;have:∀ (l e:List Int) (j:Nat),ixI t l=some j→ixI t (l++e)=some j:=fun l e=>by
  induction e generalizing l with
  | nil=>intro j h;simpa using h
  | cons u e ih =>
   intro j h;have:=ih (l++[u]) j (ixI_apz h);simpa using this
 have h2:=this (keysS D) (keysS E) j hj;simpa [keysS] using h2
theorem lookD_new {D:Dist}{t:Int}{n:Nat}(h:t∉keysS D):lookD (D++[(t,n)]) t=some n:=by
 unfold lookD;rw [show keysS (D++[(t,n)])=keysS D++[t] by simp [keysS],ixI_nwz h];simp [keysS]
theorem lookD_mem {D:Dist}{t:Int}{m:Nat}(h:lookD D t=some m):∃ j:Nat,D[j]?=some (t,m):=by
 unfold lookD at h;rw [Option.map_eq_some_iff] at h;obtain ⟨j,hj,rfl⟩:=h;obtain ⟨v,hv⟩:=ixI_getS hj;exact ⟨j,by simp [List.getD_eq_getElem?_getD,hv]⟩
theorem lookD_some {D:Dist}{t:Int}(h:t∈keysS D):∃ m,lookD D t=some m:=by
 unfold lookD;cases hx:ixI t (keysS D) with
 | none=>exact absurd h (ixI_none.1 hx)
 | some j=>exact ⟨_,rfl⟩
structure FarJ (W:Int→List Stp) (U:List Int) (goal:Int) (i:Nat) (q:Int×Nat) (S:List Stp) (D0 D:Dist):Prop where
 at_:D[i]?=some q
 head:D[0]?=some (goal,0)
 nd:(keysS D).Nodup
 sub:∀ t∈keysS D,t∈U
 mono:D.Pairwise fun a b=>a.2≤b.2
 last:∀ p∈D,p.2≤q.2+1
 done:∀ j p,j<i→D[j]?=some p→∀ s∈W p.1,∃ m,lookD D s.tt=some m∧m≤p.2+1
 these:∀ s∈S,∃ m,lookD D s.tt=some m∧m≤q.2+1
theorem FarJ.step {W:Int→List Stp}{U:List Int}{goal:Int}{i:Nat}{q:Int×Nat}{S:List Stp}{D0 D:Dist}(h:FarJ W U goal i q S D0 D) {s:Stp}(hU:s.tt∈U):FarJ W U goal i q (S++[s]) D0 (farS q.2 D s):=by
 unfold farS;by_cases hm:s.tt∈keysS D
 ·rw [if_pos hm];refine ⟨h.at_,h.head,h.nd,h.sub,h.mono,h.last,h.done,fun x hx=>?_⟩;rcases List.mem_append.1 hx with hx | hx
  ·exact h.these x hx
  ·simp only [List.mem_singleton] at hx;subst hx;obtain ⟨m,h1⟩:=lookD_some hm;obtain ⟨j,hj⟩:=lookD_mem h1;exact ⟨m,h1,h.last _ (List.mem_of_getElem? hj)⟩
 ·rw [if_neg hm];have hil:=(List.getElem?_eq_some_iff.1 h.at_).1;have hk:keysS (D++[(s.tt,q.2+1)])=keysS D++[s.tt]:=by simp [keysS]
  refine ⟨by rw [List.getElem?_append_left hil];exact h.at_,by rw [List.getElem?_append_left (by omega)];exact h.head,?_,fun t ht=>?_,?_,fun p hp=>?_,fun j p hj hp x hx=>?_,fun x hx=>?_⟩
  ·rw [hk,List.nodup_append];exact ⟨h.nd,by simp,fun a ha b hb=>by simp at hb;subst hb;exact fun e=>hm (e ▸ ha)⟩
  ·rw [hk] at ht;rcases List.mem_append.1 ht with ht | ht
   ·exact h.sub t ht
   ·simp only [List.mem_singleton] at ht;subst ht;exact hU
  ·rw [List.pairwise_append];exact ⟨h.mono,by simp,fun a ha b hb=>by simp only [List.mem_singleton] at hb;subst hb;exact h.last a ha⟩
  ·rcases List.mem_append.1 hp with hp | hp
   ·exact h.last p hp
   ·simp only [List.mem_singleton] at hp;subst hp;exact Nat.le_refl _
  ·rw [List.getElem?_append_left (by omega)] at hp;obtain ⟨m,h1,h2⟩:=h.done j p hj hp x hx;exact ⟨m,lookD_app h1 _,h2⟩
  ·rcases List.mem_append.1 hx with hx | hx
   ·obtain ⟨m,h1,h2⟩:=h.these x hx;exact ⟨m,lookD_app h1 _,h2⟩
   ·simp only [List.mem_singleton] at hx;subst hx;exact ⟨_,lookD_new hm,Nat.le_refl _⟩
theorem FarI.open_ {W:Int→List Stp}{U:List Int}{goal:Int}{i:Nat}{D:Dist}(h:FarI W U goal i D) {q:Int×Nat}(hq:D[i]?=some q):FarJ W U goal i q [] D D:=
 ⟨hq,h.head,h.nd,h.sub,h.mono,h.last q hq,h.done,fun s hs=>by cases hs⟩
theorem FarJ.close {W:Int→List Stp}{U:List Int}{goal:Int}{i:Nat}{q:Int×Nat}{D0 D:Dist}(h:FarJ W U goal i q (W q.1) D0 D):FarI W U goal (i+1) D:=by
 have hil:=(List.getElem?_eq_some_iff.1 h.at_).1;have hiq:=(List.getElem?_eq_some_iff.1 h.at_).2;refine ⟨h.head,h.nd,h.sub,by omega,h.mono,fun q' hq' p hp=>?_,fun j p hj hp s hs=>?_⟩
 ·have h1:=h.last p hp;have hl:=(List.getElem?_eq_some_iff.1 hq').1;have he:=(List.getElem?_eq_some_iff.1 hq').2;have h2:=List.pairwise_iff_getElem.1 h.mono i (i+1) hil hl (by omega);rw [hiq,he] at h2;omega
 ·by_cases e:j=i
  ·subst e;rw [h.at_] at hp;cases hp;exact h.these s hs
  ·exact h.done j p (by omega) hp s hs
theorem FarI.start (W:Int→List Stp) {U:List Int}{goal:Int}(h:goal∈U):FarI W U goal 0 [(goal,0)]:=by
 refine ⟨rfl,by simp [keysS],fun t ht=>?_,Nat.zero_le _,by simp,fun q hq p hp=>?_,fun j q hj=>by omega⟩
 ·simp [keysS] at ht;subst ht;exact h
 ·simp only [List.mem_singleton] at hp;subst hp;simp
theorem FarI.len {W:Int→List Stp}{U:List Int}{goal:Int}{i:Nat}{D:Dist}(h:FarI W U goal i D):D.length≤U.length:=by
 have:=h.nd.length_le_of_subset (l₂:=U) fun t ht=>h.sub t ht;simpa [keysS] using this
theorem FarJ.len {W:Int→List Stp}{U:List Int}{goal:Int}{i:Nat}{q:Int×Nat}{S:List Stp}{D0 D:Dist}(h:FarJ W U goal i q S D0 D):D.length≤U.length:=by
 have:=h.nd.length_le_of_subset (l₂:=U) fun t ht=>h.sub t ht;simpa [keysS] using this
theorem FarJ.fold {W:Int→List Stp}{U:List Int}{goal:Int}{i:Nat}{q:Int×Nat}{D0:Dist}:∀ (R S:List Stp) (D:Dist),FarJ W U goal i q S D0 D→(∀ s∈R,s.tt∈U)→FarJ W U goal i q (S++R) D0 (R.foldl (farS q.2) D)
 | [],S,D,h,_=>by simpa using h
 | s::R,S,D,h,hU=>by
  have:=FarJ.fold R (S++[s]) _ (h.step (hU s (by simp))) fun x hx=>hU x (by simp [hx]);simpa using this
theorem FarI.turn {W:Int→List Stp}{U:List Int}{goal:Int}{i:Nat}{D:Dist}(h:FarI W U goal i D) (hi:i<D.length) (hU:∀ t,∀ s∈W t,s.tt∈U):FarI W U goal (i+1) (farT W D i):=by
 have hq:D[i]?=some D[i]:=List.getElem?_eq_getElem hi;unfold farT;rw [hq];have:=FarJ.fold (W D[i].1) [] D (h.open_ hq) (hU _);rw [List.nil_append] at this;exact this.close
theorem farR_ok {W:Int→List Stp}{U:List Int}{goal:Int}(hU:∀ t,∀ s∈W t,s.tt∈U):∀ (k i:Nat) (D:Dist),FarI W U goal i D→U.length≤i+k→FarI W U goal (farR W k i D).length (farR W k i D)
 | 0,i,D,h,hk=>by
  have h1:=h.len;have h2:=h.le;have:i=D.length:=by omega
  subst this;exact h
 | k+1,i,D,h,hk=>by
  unfold farR;split
  ·rename_i hi;exact farR_ok hU k (i+1) _ (h.turn hi hU) (by omega)
  ·have h2:=h.le;have:i=D.length:=by omega
   subst this;exact h
def allT (E:List Stp) (goal:Int):List Int:=goal::(E.map Stp.tt++E.map Stp.ft)
def farM (l:List Table) (E:List Stp) (goal:Int):Dist:=farR (wayW l E) (2*E.length+1) 0 [(goal,0)]
theorem allT_way {l:List Table}{E:List Stp}{goal t:Int}{s:Stp}(h:s∈wayW l E t):s.tt∈allT E goal:=by
 obtain ⟨x,h1,_,h | h⟩:=wayW_mem.1 h
 ·rw [h.2];unfold allT;simp;exact .inr (.inl ⟨x,h1,rfl⟩)
 ·rw [h.2];unfold allT;simp;exact .inr (.inr ⟨x,h1,rfl⟩)
theorem farM_ok (l:List Table) (E:List Stp) (goal:Int):FarI (wayW l E) (allT E goal) goal (farM l E goal).length (farM l E goal):=
 farR_ok (fun t s hs=>allT_way hs) _ 0 _ (FarI.start _ (by simp [allT])) (by simp [allT];omega)
theorem farM_len (l:List Table) (E:List Stp) (goal:Int):(farM l E goal).length≤2*E.length+1:=by
 have:=(farM_ok l E goal).len;simp [allT] at this;omega
theorem farM_far (l:List Table) (E:List Stp) (goal:Int):FarOK (wayW l E) (lookD (farM l E goal)) goal:=by
 have h:=farM_ok l E goal;refine ⟨?_,fun t n s hn hs=>?_,fun t s hs=>⟨revS s,wayW_sym hs,?_⟩⟩
 ·have hl:0<(farM l E goal).length:=(List.getElem?_eq_some_iff.1 h.head).1;unfold lookD;have:keysS (farM l E goal)=goal::(keysS (farM l E goal)).tail:=by
   cases hD:farM l E goal with
   | nil=>rw [hD] at hl;simp at hl
   | cons a D =>
    have:=h.head;rw [hD] at this;simp at this;subst this;simp [keysS]
  rw [this];simp [ixI,List.getD_eq_getElem?_getD,h.head]
 ·obtain ⟨j,hj⟩:=lookD_mem hn;exact h.done j (t,n) (List.getElem?_eq_some_iff.1 hj).1 hj s hs
 ·exact wayW_ft hs
def stpsE (E:List (List Int)):List Stp:=E.map stpOf
theorem befT_all (p:Pth):befT p p.steps.length=p.start::p.steps.map Stp.tt:=by unfold befT;rw [List.take_length]
def routesL (l:List Table) (E:List (List Int)) (from_ dst:Int) (k:Nat):List Pth:=simL (wayW l (stpsE E)) dst from_ k [] from_
def findP (l:List Table) (E:List (List Int)) (from_ dst:Int) (most enough:Nat):List Pth:=if from_=dst then [⟨from_,[]⟩] else sortBy ordC (visM (wayW l (stpsE E)) (lookD (farM l (stpsE E) dst)) dst from_ enough most [] from_ [])
theorem findP_eq {l:List Table}{E:List (List Int)}{from_ dst:Int}{most enough:Nat}(hne:from_≠dst):findP l E from_ dst most enough=sortBy ordC ((routesL l E from_ dst most).take (enough+1)):=by
 unfold findP;rw [if_neg hne,visM_eq (farM_far l (stpsE E) dst) most [] from_ [] (Nat.zero_le _),List.nil_append];rfl
theorem routesL_nodup (l:List Table) (E:List (List Int)) (from_ dst:Int) (k:Nat):(routesL l E from_ dst k).Nodup:=simL_nodup (wayW_nd stepC_tot l (stpsE E)) k [] from_
theorem findP_len (l:List Table) (E:List (List Int)) (from_ dst:Int) (most enough:Nat):(findP l E from_ dst most enough).length≤enough+1:=by
 by_cases e:from_=dst
 ·unfold findP;rw [if_pos e];simp
 ·rw [findP_eq e,sortBy_len,List.length_take];omega
end Go.Sx.Sp
