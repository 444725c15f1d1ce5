-- Lean text by a program of this repo (wip/tools/printx.py), out of Lean's own print of the translation
import Derived.Test.YtbnchdfmkmkhnaaPTimerNonex1
import Derived.Test.YtbnchdfmkmkhnaaPTimerNonex0
import Derived.Test.YtbnchdfmkmkhnaaOpen
import Derived.KernelRfl
namespace Go.Proofs.Ytbnchdfmkmkhnaa.BndTimerNone
open Go.RowKit Go.Proofs.Ytbnchdfmkmkhnaa.PTimerNone Go.Proofs.YtbnchdfmkmkhnaaW.PrintWords Go.Proofs.YtbnchdfmkmkhnaaW.PrintLast Go.Proofs.Ytbnchdfmkmkhnaa.Open
set_option linter.unusedVariables false
set_option maxRecDepth 100000
/-- THE ONE PURE STATEMENT of interregnumlaw17_TimerNone. -/
def Pure : Prop := ∀ (x0 : ByteArray) (x1 : Int), (x0.size ≤ 140737488351232) → ((Lit.int .i64 x1).wf = true) → interregnumlaw17_TimerNone.f x0 x1 = some true
theorem arg0 : Opens Try.prog 9 Kd.string (fun x => x.size ≤ 140737488351232) := (Opens.string Try.underlying9)
theorem arg1 : Opens Try.prog 3 (Kd.int .i64) (fun x => (Lit.int .i64 x).wf = true) := (Opens.int Try.underlying3)
end Go.Proofs.Ytbnchdfmkmkhnaa.BndTimerNone
