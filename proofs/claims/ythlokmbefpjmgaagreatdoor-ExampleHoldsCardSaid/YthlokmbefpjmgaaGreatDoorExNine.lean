/- Finding answers as the document tells it. -/
import Derived.Test.YthlokmbefpjmgaaGreatDoorExEight
import Derived.Test.YthlokmbefpjmgaaGreatDoorJSeven
import Derived.Test.YthlokmbefpjmgaaGreatDoorJSix
import Derived.Test.YthlokmbefpjmgaaGreatDoorExThree
import Derived.Test.YthlokmbefpjmgaaGreatDoorSxFive
import Derived.Test.YthlokmbefpjmgaaGreatDoorSxFour
set_option linter.unusedVariables false
set_option linter.unusedSimpArgs false
namespace Go.Sx.Sp
open Go Go.Sx Go.Proofs Go.Sort
attribute [local irreducible] GoodW famL
end Go.Sx.Sp
