-- Lean text by a program of this repo (wip/tools/printx.py), out of Lean's own print of the translation
import Derived.Test.YtpojfebecmjloaaPWalFullx8
import Derived.Test.YtpojfebecmjloaaPWalFullx0
import Derived.Test.YtpojfebecmjloaaOpen
import Derived.KernelRfl
namespace Go.Proofs.Ytpojfebecmjloaa.BndWalFull
open Go.RowKit Go.Proofs.Ytpojfebecmjloaa.PWalFull Go.Proofs.YtpojfebecmjloaaW.PrintWords Go.Proofs.YtpojfebecmjloaaW.PrintLast Go.Proofs.Ytpojfebecmjloaa.Open
set_option linter.unusedVariables false
set_option maxRecDepth 100000
/-- THE ONE PURE STATEMENT of interregnumlaw04_WalFull. -/
def Pure : Prop := ∀ (x0 : Int) (x1 : Int), ((Lit.int .u8 x0).wf = true) → ((Lit.int .u8 x1).wf = true) → ∃ k, interregnumlaw04_WalFull.f k x0 x1 = some true
theorem arg0 : Opens Try.prog 5 (Kd.int .u8) (fun x => (Lit.int .u8 x).wf = true) := (Opens.int Try.underlying5)
theorem arg1 : Opens Try.prog 5 (Kd.int .u8) (fun x => (Lit.int .u8 x).wf = true) := (Opens.int Try.underlying5)
end Go.Proofs.Ytpojfebecmjloaa.BndWalFull
