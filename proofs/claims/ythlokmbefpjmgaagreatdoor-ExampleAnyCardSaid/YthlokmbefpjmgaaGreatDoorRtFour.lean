/- Paths in order, all paths as the document tells them, and the order of routes. -/
import Derived.Test.YthlokmbefpjmgaaGreatDoorRtThree
import Derived.Test.YthlokmbefpjmgaaGreatDoorSxFive
import Derived.Test.YthlokmbefpjmgaaGreatDoorJSix
import Derived.Test.YthlokmbefpjmgaaGreatDoorJThree
import Derived.Test.YthlokmbefpjmgaaGreatDoorSxFour
set_option linter.unusedVariables false
set_option linter.unusedSimpArgs false
namespace Go.Sx.Sp
open Go Go.Sx Go.Proofs Go.Sort
attribute [local irreducible] GoodW famL
theorem pthRows_get {l:List Pth}{i:Nat}(h:i<l.length):(pthRows l)[i]?=some l[i].row:=by simp [pthRows,h]
theorem pthRows_sz (l:List Pth):rowsSz (pthRows l) 2:=by
 unfold rowsSz pthRows;intro r hr;obtain ⟨c,_,rfl⟩:=List.mem_map.1 hr;rfl
structure Rte where
 p:Pth
 r:Rep
 deriving DecidableEq
def Rte.row (x:Rte):List V:=[.int .i64 x.p.start,.sl (stpRows x.p.steps) false,.int .i64 x.r.rows,.int .i64 x.r.lost,.int .i64 x.r.most,.sl (intRows .i64 x.r.unused) false]
section
attribute [local instance] GQ
end
end Go.Sx.Sp
