-- Lean text by a program of this repo (wip/tools/printx.py), out of Lean's own print of the translation
import Derived.Test.YtpojfebecmjloaaPWalNonex7
import Derived.Test.YtpojfebecmjloaaPWalNonex0
import Derived.Test.YtpojfebecmjloaaOpen
import Derived.KernelRfl
namespace Go.Proofs.Ytpojfebecmjloaa.BndWalNone
open Go.RowKit Go.Proofs.Ytpojfebecmjloaa.PWalNone Go.Proofs.YtpojfebecmjloaaW.PrintWords Go.Proofs.YtpojfebecmjloaaW.PrintLast Go.Proofs.Ytpojfebecmjloaa.Open
set_option linter.unusedVariables false
set_option maxRecDepth 100000
/-- THE ONE PURE STATEMENT of interregnumlaw04_WalNone. -/
def Pure : Prop := ∀ (x0 : List Int) (x1 : Int), (x0.length * 1 ≤ 140737488351232 ∧ ∀ y ∈ x0, (Lit.int .u8 y).wf = true) → ((Lit.int .u8 x1).wf = true) → interregnumlaw04_WalNone.f x0 x1 = some true
theorem arg0 : Opens Try.prog 22 (Kd.slice 5 (Kd.int .u8)) (fun x => x.length * 1 ≤ 140737488351232 ∧ ∀ y ∈ x, (Lit.int .u8 y).wf = true) := (Opens.slice (b := 1) Try.underlying22 (by kernel_rfl) (by kernel_rfl) (by decide) (Opens.int Try.underlying5))
theorem arg1 : Opens Try.prog 5 (Kd.int .u8) (fun x => (Lit.int .u8 x).wf = true) := (Opens.int Try.underlying5)
end Go.Proofs.Ytpojfebecmjloaa.BndWalNone
