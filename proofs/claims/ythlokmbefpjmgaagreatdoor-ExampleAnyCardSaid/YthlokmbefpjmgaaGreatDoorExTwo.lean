/- Tables of a path. -/
import Derived.Test.YthlokmbefpjmgaaGreatDoorExOne
import Derived.Test.YthlokmbefpjmgaaGreatDoorSxFive
import Derived.Test.YthlokmbefpjmgaaGreatDoorJFour
import Derived.Test.YthlokmbefpjmgaaGreatDoorSxFour
set_option linter.unusedVariables false
set_option linter.unusedSimpArgs false
namespace Go.Sx.Sp
open Go Go.Sx Go.Proofs
attribute [local irreducible] GoodW famL
section
variable {l:List Table}{a b:Table}{x y:Nat}
end
end Go.Sx.Sp
namespace Go.Sx.Sp
open Go Go.Sx Go.Proofs
attribute [local irreducible] GoodW famL
end Go.Sx.Sp
namespace Go.Sx.Sp
open Go Go.Sx Go.Proofs Go.RowKit
attribute [local irreducible] GoodW famL
section
variable (l:List Table) (p:Pth)
end
section
variable {l:List Table}{p:Pth}
end
end Go.Sx.Sp
namespace Go.Sx.Sp
open Go Go.Sx Go.Proofs Go.RowKit
attribute [local irreducible] GoodW famL
end Go.Sx.Sp
