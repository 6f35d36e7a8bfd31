/- Routes with their reports, in order. -/
import Derived.Test.YthlokmbefpjmgaaGreatDoorRtFour
import Derived.Test.YthlokmbefpjmgaaGreatDoorJFour
import Derived.Test.YthlokmbefpjmgaaGreatDoorJSeven
import Derived.Test.YthlokmbefpjmgaaGreatDoorSxFive
import Derived.Test.YthlokmbefpjmgaaGreatDoorJSix
import Derived.Test.YthlokmbefpjmgaaGreatDoorSxFour
set_option linter.unusedVariables false
set_option linter.unusedSimpArgs false
namespace Go.Sx.Sp
open Go Go.Sx Go.Proofs Go.Sort
attribute [local irreducible] GoodW famL
theorem TotC.or {α:Type}{c1 c2:α→α→Int}(h1:∀ a b,c1 a b<0↔0<c1 b a) (h2:∀ a b d,c1 a b<0→c1 b d<0→c1 a d<0) (h3:∀ a b d,c1 a b=0→c1 b d<0→c1 a d<0) (h4:∀ a b d,c1 a b<0→c1 b d=0→c1 a d<0) (h5:∀ a b d,c1 a b=0→c1 b d=0→c1 a d=0)
  (h6:∀ a,c1 a a=0) (h:TotC c2):TotC fun a b=>if c1 a b=0 then c2 a b else c1 a b:=by
 refine ⟨fun a b=>?_,fun a b=>?_,fun a b d=>?_⟩
 ·constructor
  ·intro e;by_cases h0:c1 a b=0
   ·simp only [h0,if_true] at e;exact (h.zero a b).1 e
   ·simp only [h0,if_false] at e
  ·rintro rfl;simp only [h6,if_true];exact (h.zero a a).2 rfl
 ·have ha:=h1 a b;have hb:=h1 b a;by_cases h0:c1 a b=0
  ·have h0':c1 b a=0:=by omega
   simp only [h0,h0',if_true];exact h.anti a b
  ·have h0':¬ c1 b a=0:=by omega
   simp only [h0,h0',if_false];exact ha
 ·intro e1 e2;by_cases g1:c1 a b=0
  ·simp only [g1,if_true] at e1;by_cases g2:c1 b d=0
   ·simp only [g2,if_true] at e2;simp only [h5 a b d g1 g2,if_true];exact h.trans a b d e1 e2
   ·simp only [g2,if_false] at e2;have g3:=h3 a b d g1 e2;simp only [show ¬ c1 a d=0 by omega,if_false];exact g3
  ·simp only [g1,if_false] at e1;by_cases g2:c1 b d=0
   ·have g3:=h4 a b d e1 g2;simp only [show ¬ c1 a d=0 by omega,if_false];exact g3
   ·simp only [g2,if_false] at e2;have g3:=h2 a b d e1 e2;simp only [show ¬ c1 a d=0 by omega,if_false];exact g3
theorem TotC.num {α:Type}{c2:α→α→Int}(f:α→Int) (h:TotC c2):TotC fun a b=>if cmpJ (f a) (f b)=0 then c2 a b else cmpJ (f a) (f b):=by
 refine TotC.or (c1:=fun a b=>cmpJ (f a) (f b)) ?_ ?_ ?_ ?_ ?_ ?_ h<;>intros<;>simp only [cmpJ] at *<;>(repeat' split at *)<;>first | omega | (constructor<;>omega) | rfl
end Go.Sx.Sp
