-- Lean text by a program of this repo (wip/tools/printx.py), out of Lean's own print of the translation
import Derived.Test.YtpojfebecmjloaaPWalSupersx8
import Derived.Test.YtpojfebecmjloaaPWalSupersx0
import Derived.Test.YtpojfebecmjloaaOpen
import Derived.KernelRfl
namespace Go.Proofs.Ytpojfebecmjloaa.BndWalSupers
open Go.RowKit Go.Proofs.Ytpojfebecmjloaa.PWalSupers Go.Proofs.YtpojfebecmjloaaW.PrintWords Go.Proofs.YtpojfebecmjloaaW.PrintLast Go.Proofs.Ytpojfebecmjloaa.Open
set_option linter.unusedVariables false
set_option maxRecDepth 100000
/-- THE ONE PURE STATEMENT of interregnumlaw04_WalSupers. -/
def Pure : Prop := ∀ (x0 : Int) (x1 : Int) (x2 : Int), ((Lit.int .u8 x0).wf = true) → ((Lit.int .u8 x1).wf = true) → ((Lit.int .u8 x2).wf = true) → ∃ k, interregnumlaw04_WalSupers.f k x0 x1 x2 = some true
theorem arg0 : Opens Try.prog 5 (Kd.int .u8) (fun x => (Lit.int .u8 x).wf = true) := (Opens.int Try.underlying5)
theorem arg1 : Opens Try.prog 5 (Kd.int .u8) (fun x => (Lit.int .u8 x).wf = true) := (Opens.int Try.underlying5)
theorem arg2 : Opens Try.prog 5 (Kd.int .u8) (fun x => (Lit.int .u8 x).wf = true) := (Opens.int Try.underlying5)
end Go.Proofs.Ytpojfebecmjloaa.BndWalSupers
