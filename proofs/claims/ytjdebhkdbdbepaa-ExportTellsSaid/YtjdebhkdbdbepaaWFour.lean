-- Out of a text that the kit's print laid, turned by a program of this repo (wip/tools/prune.py): without what this claim doesn't reach
import Derived.Test.YtjdebhkdbdbepaaWTab
/-! ### 56. Four, five, six operations that may come up next, in any order -/
namespace Go.Proofs.YtjdebhkdbdbepaaW.PrintLast
section
variable {P : Program} {ops : Array Oper} {Q : Exit → Act → World → Prop} {md : Region.Mode} {S : World → Prop} {ds : List Nat} {T : Bool × List (List Nat × List Nat)}
end
end Go.Proofs.YtjdebhkdbdbepaaW.PrintLast
