-- Out of a text that the kit's print laid, turned by a program of this repo (wip/tools/prune.py): without what this claim doesn't reach
import Derived.Test.YtjdebhkdbdbepaaWWords
import Derived.Laws.StructEq
/-! ### 53. '==' of structs as_ one Bool -/
namespace Go.Proofs.YtjdebhkdbdbepaaW.PrintWords
open Go.RowKit
section
variable {P : Program} {d : Nat} {xs ys : Array Value} {f : Field} {fs : List Field} {a b : Value} {r s : Bool} {w : World}
end
end Go.Proofs.YtjdebhkdbdbepaaW.PrintWords
