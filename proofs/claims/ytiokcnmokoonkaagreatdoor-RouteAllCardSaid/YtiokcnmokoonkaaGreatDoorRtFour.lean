/- Paths in order, all paths as the document tells them, and the order of routes. -/
import Derived.Test.YtiokcnmokoonkaaGreatDoorRtThree
import Derived.Test.YtiokcnmokoonkaaGreatDoorJSix
import Derived.Test.YtiokcnmokoonkaaGreatDoorJThree
import Derived.Test.YtiokcnmokoonkaaGreatDoorSxFour
set_option linter.unusedVariables false
set_option linter.unusedSimpArgs false
namespace Go.Sx.Sp
open Go Go.Sx Go.Proofs Go.Sort
attribute [local irreducible] GoodW famL
theorem pthRows_get {l:List Pth} {i:Nat} (h:i < l.length):(pthRows l)[i]? = some l[i].row:=by simp [pthRows,h]
theorem cmpPath33_sp (a b:Pth):Spec Tryz.prog 24 [.agg a.row,.agg b.row] [] (.int .i64 (ordC a b)) []:=Spec.ofQuiet (cmpPath33_spec a b) fun u hu=>by
 simp at hu
 rcases hu with rfl | rfl <;> simp [V.sites,sitesL,Pth.row]
end Go.Sx.Sp
namespace Go.Sx.Sp
open Go Go.Sx Go.Proofs Go.Sort
attribute [local irreducible] GoodW famL
end Go.Sx.Sp
namespace Go.Sx.Sp
open Go Go.Sx Go.Proofs Go.Sort
attribute [local irreducible] GoodW famL
end Go.Sx.Sp
namespace Go.Sx.Sp
open Go Go.Sx Go.Proofs Go.Sort
attribute [local irreducible] GoodW famL
end Go.Sx.Sp
namespace Go.Sx.Sp
open Go Go.Sx Go.Proofs Go.Sort
attribute [local irreducible] GoodW famL
structure Rte where
 p:Pth
 r:Rep
 deriving DecidableEq
def Rte.row (x:Rte):List V:=[.int .i64 x.p.start,.sl (stpRows x.p.steps) false,.int .i64 x.r.rows,.int .i64 x.r.lost,.int .i64 x.r.most,.sl (intRows .i64 x.r.unused) false]
def rteRows (l:List Rte):List (List V):=l.map Rte.row
theorem rteRows_len (l:List Rte):(rteRows l).length=l.length:=by simp [rteRows]
def rteC (a b:Rte):Int:=orL [cmpJ a.r.lost b.r.lost,cmpJ a.r.most b.r.most,cmpJ (a.p.steps.length:Nat) (b.p.steps.length:Nat),ordC a.p b.p]
section
attribute [local instance] GQ
set_option maxHeartbeats 4000000 in
theorem cmpRteQ_spec (a b:Rte):Spec Tryz.prog 21 [.agg a.row,.agg b.row] [] (.int .i64 (rteC a b)) []:=by
 have hal:=stpRows_len a.p.steps
 have hbl:=stpRows_len b.p.steps
 have s1:=cmpQ_spec a.r.lost b.r.lost
 have s2:=cmpQ_spec a.r.most b.r.most
 have s3:=cmpQ_spec ((stpRows a.p.steps).length:Nat) ((stpRows b.p.steps).length:Nat)
 have s4:=orderQ_spec a.p b.p
 unfold rteC
 rw [← hal,← hbl]
 have s5:=orQ_spec [cmpJ a.r.lost b.r.lost,cmpJ a.r.most b.r.most,cmpJ ((stpRows a.p.steps).length:Nat) ((stpRows b.p.steps).length:Nat),ordC a.p b.p]
 generalize cmpJ a.r.lost b.r.lost=x1 at *
 generalize cmpJ a.r.most b.r.most=x2 at *
 generalize cmpJ ((stpRows a.p.steps).length:Nat) ((stpRows b.p.steps).length:Nat)=x3 at *
 generalize ordC a.p b.p=x4 at *
 refine gEn env Tryz.func21 fun Γ hN hK hML=>?_
 (refine gGo ?_; intros)
 (refine gPC (s1) ?_; conv=>whnf)
 (refine gGo ?_; intros)
 (refine gPC (s2) ?_; conv=>whnf)
 (refine gGo ?_; intros)
 (refine gPC (s3) ?_; conv=>whnf)
 (refine gGo ?_; intros)
 (refine gPC (s4) ?_; conv=>whnf)
 (refine gGo ?_; intros)
 (refine gPC (s5) ?_; conv=>whnf)
 (refine gGr ?_; intros)
 exact ret0 rfl rfl rfl
end
theorem rte_pure (a b:Rte):∀ u ∈ [V.agg a.row,V.agg b.row],u.sites=[]:=fun u hu=>by
 simp at hu
 rcases hu with rfl | rfl <;> simp [V.sites,sitesL,Rte.row]
theorem cmpRte_spec (a b:Rte):Spec Tryz.prog 21 [.agg a.row,.agg b.row] [] (.int .i64 (rteC a b)) []:=Spec.ofQuiet (cmpRteQ_spec a b) (rte_pure a b)
end Go.Sx.Sp
