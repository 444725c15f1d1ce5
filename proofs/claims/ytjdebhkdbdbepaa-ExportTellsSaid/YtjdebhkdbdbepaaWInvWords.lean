-- Out of a text that the kit's print laid, turned by a program of this repo (wip/tools/prune.py): without what this claim doesn't reach
import Derived.Test.YtjdebhkdbdbepaaWInv
import Derived.Test.YtjdebhkdbdbepaaWFootNe
namespace Go.Proofs.YtjdebhkdbdbepaaW.PrintWords
open Go.RowKit
end Go.Proofs.YtjdebhkdbdbepaaW.PrintWords
namespace Go.Proofs.YtjdebhkdbdbepaaW.PrintLast
section
variable {ops : Array Oper} {a : Act} {o og : Oper} {g : Nat} {t : Tmp} {u : Bool}
end
end Go.Proofs.YtjdebhkdbdbepaaW.PrintLast
