/- Paths in order, all paths as the document tells them, and the order of routes. -/
import Derived.Test.YtiokcnmokoonkaaGreatDoorRtThree
import Derived.Test.YtiokcnmokoonkaaGreatDoorJSix
import Derived.Test.YtiokcnmokoonkaaGreatDoorJThree
import Derived.Test.YtiokcnmokoonkaaGreatDoorSxFour
set_option linter.unusedVariables false
set_option linter.unusedSimpArgs false
namespace Go.Sx.Sp
open Go Go.Sx Go.Proofs Go.Sort
attribute [local irreducible] GoodW famL
theorem pthRows_get {l:List Pth} {i:Nat} (h:i < l.length):(pthRows l)[i]? = some l[i].row:=by simp [pthRows,h]
end Go.Sx.Sp
namespace Go.Sx.Sp
open Go Go.Sx Go.Proofs Go.Sort
attribute [local irreducible] GoodW famL
set_option maxHeartbeats 8000000 in
theorem samePath_spec (a b:Pth):Spec Tryz.prog 28 [.agg a.row,.agg b.row] [] (.bool (decide (a=b))) []:=by
 have hla:=stpRows_len a.steps
 have hlb:=stpRows_len b.steps
 have hiff:a=b ↔ a.start=b.start ∧ a.steps=b.steps:=by cases a; cases b; simp
 refine gEn env Tryz.func28 fun Γ hN hK hML=>?_
 refine gA ?_
 (refine gE env hN (by kernel_rfl) ?_; conv=>whnf)
 (refine gGs ?_; intros)
 refine W.leG (mp:=[]) (bo:=[2,3]) (st':=⟨[(2,.ro a.row 0),(3,.ro b.row 0)],[],[]⟩)
  (LeG.mk' rfl rfl rfl ⟨⟨_,.bp 2 0 2 a.row none rfl rfl (by simp [Pth.row]) (.inr rfl),rfl⟩,⟨_,.bp 3 0 2 b.row none rfl rfl (by simp [Pth.row]) (.inr rfl),rfl⟩,trivial⟩ .nil rfl rfl (by rw [hK]; rfl)) ?_
 by_cases h1:a.start=b.start
 ·by_cases h2:a.steps.length=b.steps.length
  ·(refine gGo ?_; intros)
   refine W.loopG (fun m st=>∃ k:Nat,k ≤ a.steps.length ∧ a.steps.take k=b.steps.take k ∧ m=a.steps.length - k ∧ st=⟨[(3,.ro b.row 0),(22,.sl (stpRows a.steps) false),(23,.int .i64 (stpRows a.steps).length),(24,.int .i64 (k:Nat))],[],[]⟩)
    a.steps.length _ ⟨0,by omega,by simp,by omega,rfl⟩ ⟨[],[],[],.mq .nil⟩ ?_
   rintro m st ⟨k,hk,htk,rfl,rfl⟩
   (refine gGo ?_; intros)
   refine boolRes_split (fun hb=>?_) (fun hb=>?_) <;> conv=>whnf
   ·have hlt:k < a.steps.length:=by omega
    have hlt2:k < b.steps.length:=by omega
    have hg1:=stpRows_get hlt
    have hg2:=stpRows_get hlt2
    have htk2:a.steps[k]=b.steps[k] → a.steps.take (k + 1)=b.steps.take (k + 1):=take_snoc htk hlt hlt2
    have hneq:a.steps[k] ≠ b.steps[k] → ¬ (a=b):=fun h1 h2=>by subst h2; exact h1 rfl
    generalize a.steps[k]=x at *
    generalize b.steps[k]=y at *
    (refine gGo ?_; intros)
    refine rowAt_of (r:=x.row) (by simpa using hg1) ?_
    conv=>whnf
    (refine gGo ?_; intros)
    refine rowAt_of (r:=y.row) (by simpa using hg2) ?_
    conv=>whnf
    (refine gGo ?_; intros)
    refine ⟨_,_,_,steps_ne rfl y x rfl rfl (by kernel_rfl),?_⟩
    by_cases e6:y=x
    ·rw [decide_eq_true e6]
     conv=>whnf
     (refine gGo ?_; intros)
     refine ⟨a.steps.length - (k + 1),_,by omega,⟨k + 1,by omega,htk2 e6.symm,rfl,rfl⟩,[],[6],[],LeG.mq .nil⟩
    ·rw [decide_eq_false e6,decide_eq_false (hneq fun e=>e6 e.symm)]
     conv=>whnf
     (refine gGr ?_; intros)
     exact ret0 rfl rfl rfl
   ·have hke:k=a.steps.length:=by omega
    have huu:a=b:=hiff.2 ⟨h1,by rw [hke,List.take_length,h2,List.take_length] at htk; exact htk⟩
    rw [decide_eq_true huu]
    (refine gGr ?_; intros)
    exact ret0 rfl rfl rfl
  ·rw [decide_eq_false (fun h=>h2 (by rw [h]))]
   (refine gGr ?_; intros)
   exact ret0 rfl rfl rfl
 ·rw [decide_eq_false (fun h=>h1 (by rw [h]))]
  (refine gGr ?_; intros)
  exact ret0 rfl rfl rfl
end Go.Sx.Sp
namespace Go.Sx.Sp
open Go Go.Sx Go.Proofs Go.Sort
attribute [local irreducible] GoodW famL
end Go.Sx.Sp
namespace Go.Sx.Sp
open Go Go.Sx Go.Proofs Go.Sort
attribute [local irreducible] GoodW famL
end Go.Sx.Sp
namespace Go.Sx.Sp
open Go Go.Sx Go.Proofs Go.Sort
attribute [local irreducible] GoodW famL
structure Rte where
 p:Pth
 r:Rep
 deriving DecidableEq
def Rte.row (x:Rte):List V:=[.int .i64 x.p.start,.sl (stpRows x.p.steps) false,.int .i64 x.r.rows,.int .i64 x.r.lost,.int .i64 x.r.most,.sl (intRows .i64 x.r.unused) false]
def rteRows (l:List Rte):List (List V):=l.map Rte.row
theorem rteRows_len (l:List Rte):(rteRows l).length=l.length:=by simp [rteRows]
def rteC (a b:Rte):Int:=orL [cmpJ a.r.lost b.r.lost,cmpJ a.r.most b.r.most,cmpJ (a.p.steps.length:Nat) (b.p.steps.length:Nat),ordC a.p b.p]
section
attribute [local instance] GQ
set_option maxHeartbeats 4000000 in
theorem cmpRteQ_spec (a b:Rte):Spec Tryz.prog 21 [.agg a.row,.agg b.row] [] (.int .i64 (rteC a b)) []:=by
 have hal:=stpRows_len a.p.steps
 have hbl:=stpRows_len b.p.steps
 have s1:=cmpQ_spec a.r.lost b.r.lost
 have s2:=cmpQ_spec a.r.most b.r.most
 have s3:=cmpQ_spec ((stpRows a.p.steps).length:Nat) ((stpRows b.p.steps).length:Nat)
 have s4:=orderQ_spec a.p b.p
 unfold rteC
 rw [← hal,← hbl]
 have s5:=orQ_spec [cmpJ a.r.lost b.r.lost,cmpJ a.r.most b.r.most,cmpJ ((stpRows a.p.steps).length:Nat) ((stpRows b.p.steps).length:Nat),ordC a.p b.p]
 generalize cmpJ a.r.lost b.r.lost=x1 at *
 generalize cmpJ a.r.most b.r.most=x2 at *
 generalize cmpJ ((stpRows a.p.steps).length:Nat) ((stpRows b.p.steps).length:Nat)=x3 at *
 generalize ordC a.p b.p=x4 at *
 refine gEn env Tryz.func21 fun Γ hN hK hML=>?_
 (refine gGo ?_; intros)
 (refine gPC (s1) ?_; conv=>whnf)
 (refine gGo ?_; intros)
 (refine gPC (s2) ?_; conv=>whnf)
 (refine gGo ?_; intros)
 (refine gPC (s3) ?_; conv=>whnf)
 (refine gGo ?_; intros)
 (refine gPC (s4) ?_; conv=>whnf)
 (refine gGo ?_; intros)
 (refine gPC (s5) ?_; conv=>whnf)
 (refine gGr ?_; intros)
 exact ret0 rfl rfl rfl
end
theorem rte_pure (a b:Rte):∀ u ∈ [V.agg a.row,V.agg b.row],u.sites=[]:=fun u hu=>by
 simp at hu
 rcases hu with rfl | rfl <;> simp [V.sites,sitesL,Rte.row]
theorem cmpRte_spec (a b:Rte):Spec Tryz.prog 21 [.agg a.row,.agg b.row] [] (.int .i64 (rteC a b)) []:=Spec.ofQuiet (cmpRteQ_spec a b) (rte_pure a b)
end Go.Sx.Sp
