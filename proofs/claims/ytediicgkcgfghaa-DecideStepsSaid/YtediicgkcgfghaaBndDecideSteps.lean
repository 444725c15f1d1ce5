-- Lean text by a program of this repo (wip/tools/printx.py), out of Lean's own print of the translation
import Derived.Test.YtediicgkcgfghaaPDecideStepsx4
import Derived.Test.YtediicgkcgfghaaPDecideStepsx0
import Derived.Test.YtediicgkcgfghaaOpen
import Derived.KernelRfl
namespace Go.Proofs.Ytediicgkcgfghaa.BndDecideSteps
open Go.RowKit Go.Proofs.Ytediicgkcgfghaa.PDecideSteps Go.Proofs.YtediicgkcgfghaaW.PrintWords Go.Proofs.YtediicgkcgfghaaW.PrintLast Go.Proofs.Ytediicgkcgfghaa.Open
set_option linter.unusedVariables false
set_option maxRecDepth 100000
/-- THE ONE PURE STATEMENT of interregnumlaw15_DecideSteps. -/
def Pure : Prop := ∀ (x0 : Int) (x1 : Int) (x2 : Int), ((Lit.int .u8 x0).wf = true) → ((Lit.int .u16 x1).wf = true) → ((Lit.int .u16 x2).wf = true) → interregnumlaw15_DecideSteps.f x0 x1 x2 = some true
theorem arg0 : Opens Try.prog 5 (Kd.int .u8) (fun x => (Lit.int .u8 x).wf = true) := (Opens.int Try.underlying5)
theorem arg1 : Opens Try.prog 44 (Kd.int .u16) (fun x => (Lit.int .u16 x).wf = true) := (Opens.int Try.underlying44)
theorem arg2 : Opens Try.prog 44 (Kd.int .u16) (fun x => (Lit.int .u16 x).wf = true) := (Opens.int Try.underlying44)
end Go.Proofs.Ytediicgkcgfghaa.BndDecideSteps
