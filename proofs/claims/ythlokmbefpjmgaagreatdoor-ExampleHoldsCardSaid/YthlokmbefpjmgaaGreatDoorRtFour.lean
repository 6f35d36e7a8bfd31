/- Paths in order, all paths as the document tells them, and the order of routes. -/
import Derived.Test.YthlokmbefpjmgaaGreatDoorRtThree
import Derived.Test.YthlokmbefpjmgaaGreatDoorSxFive
import Derived.Test.YthlokmbefpjmgaaGreatDoorJSix
import Derived.Test.YthlokmbefpjmgaaGreatDoorJThree
import Derived.Test.YthlokmbefpjmgaaGreatDoorSxFour
set_option linter.unusedVariables false
set_option linter.unusedSimpArgs false
namespace Go.Sx.Sp
open Go Go.Sx Go.Proofs Go.Sort
attribute [local irreducible] GoodW famL
theorem pthRows_get {l:List Pth}{i:Nat}(h:i<l.length):(pthRows l)[i]?=some l[i].row:=by simp [pthRows,h]
theorem pthRows_sz (l:List Pth):rowsSz (pthRows l) 2:=by
 unfold rowsSz pthRows;intro r hr;obtain ⟨c,_,rfl⟩:=List.mem_map.1 hr;rfl
set_option maxHeartbeats 8000000 in
theorem samePath_spec (a b:Pth):Spec Tryz.prog 61 [.agg a.row,.agg b.row] [] (.bool (decide (a=b))) []:=by
 have hla:=stpRows_len a.steps;have hlb:=stpRows_len b.steps;have hiff:a=b↔a.start=b.start∧a.steps=b.steps:=by cases a;cases b;simp
 refine gEn env Tryz.func61 fun Γ hN hK hML=>?_;refine gA ?_;(refine gE env hN (by kernel_rfl) ?_;conv=>whnf);refine gGs ?_;refine W.leG (mp:=[]) (bo:=[2,3]) (st':=⟨[(2,.ro a.row 0),(3,.ro b.row 0)],[],[]⟩)
  (LeG.mk' rfl rfl rfl ⟨⟨_,.bp 2 0 2 a.row none rfl rfl (by simp [Pth.row]) (.inr rfl),rfl⟩,⟨_,.bp 3 0 2 b.row none rfl rfl (by simp [Pth.row]) (.inr rfl),rfl⟩,trivial⟩ .nil rfl rfl (by rw [hK];rfl)) ?_
 by_cases h1:a.start=b.start
 ·by_cases h2:a.steps.length=b.steps.length
  ·refine gGo ?_;intros;refine W.loopG (fun m st=>∃ k:Nat,k≤a.steps.length∧a.steps.take k=b.steps.take k∧m=a.steps.length-k∧st=⟨[(3,.ro b.row 0),(22,.sl (stpRows a.steps) false),(23,.int .i64 (stpRows a.steps).length),(24,.int .i64 (k:Nat))],[],[]⟩)
    a.steps.length _ ⟨0,by omega,by simp,by omega,rfl⟩ gX ?_
   rintro m st ⟨k,hk,htk,rfl,rfl⟩;refine gT (fun hb=>?_) fun hb=>?_
   ·have hlt:k<a.steps.length:=by omega
    have hlt2:k<b.steps.length:=by omega
    have hg1:=stpRows_get hlt;have hg2:=stpRows_get hlt2;have htk2:a.steps[k]=b.steps[k]→a.steps.take (k+1)=b.steps.take (k+1):=take_snoc htk hlt hlt2;have hneq:a.steps[k]≠b.steps[k]→¬ (a=b):=fun h1 h2=>by subst h2;exact h1 rfl
    generalize a.steps[k]=x at *;generalize b.steps[k]=y at *;refine g ?_;refine ⟨_,_,_,steps_ne rfl y x rfl rfl (by kernel_rfl),?_⟩;by_cases e6:y=x
    ·rw [decide_eq_true e6];(conv=>whnf);refine gGo ?_;refine ⟨a.steps.length-(k+1),_,by omega,⟨k+1,by omega,htk2 e6.symm,rfl,rfl⟩,[],[6],[],LeG.mq .nil⟩
    ·rw [decide_eq_false e6,decide_eq_false (hneq fun e=>e6 e.symm)];(conv=>whnf);exact gR
   ·have hke:k=a.steps.length:=by omega
    have huu:a=b:=hiff.2 ⟨h1,by rw [hke,List.take_length,h2,List.take_length] at htk;exact htk⟩;rw [decide_eq_true huu];exact gR
  ·rw [decide_eq_false (fun h=>h2 (by rw [h]))];exact gR
 ·rw [decide_eq_false (fun h=>h1 (by rw [h]))];exact gR
structure Rte where
 p:Pth
 r:Rep
 deriving DecidableEq
def Rte.row (x:Rte):List V:=[.int .i64 x.p.start,.sl (stpRows x.p.steps) false,.int .i64 x.r.rows,.int .i64 x.r.lost,.int .i64 x.r.most,.sl (intRows .i64 x.r.unused) false]
section
attribute [local instance] GQ
end
end Go.Sx.Sp
