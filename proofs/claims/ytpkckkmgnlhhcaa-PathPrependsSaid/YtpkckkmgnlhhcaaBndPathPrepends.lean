-- Lean text by a program of this repo (wip/tools/printx.py), out of Lean's own print of the translation
import Derived.Test.YtpkckkmgnlhhcaaPPathPrependsx6
import Derived.Test.YtpkckkmgnlhhcaaPPathPrependsx0
import Derived.Test.YtpkckkmgnlhhcaaOpen
import Derived.KernelRfl
namespace Go.Proofs.Ytpkckkmgnlhhcaa.BndPathPrepends
open Go.RowKit Go.Proofs.Ytpkckkmgnlhhcaa.PPathPrepends Go.Proofs.YtpkckkmgnlhhcaaW.PrintWords Go.Proofs.YtpkckkmgnlhhcaaW.PrintLast Go.Proofs.Ytpkckkmgnlhhcaa.Open
set_option linter.unusedVariables false
set_option maxRecDepth 100000
def B38 (x : S38) : Prop := (True) ∧ (x.f1.length * 8 ≤ 140737488351232 ∧ ∀ y ∈ x.f1, (Lit.int .i64 y).wf = true)
theorem o38 : Opens Try.prog 38 k38 B38 :=
  (Opens.struct (fun x : S38 => (x.f0, x.f1)) (fun a => ⟨a.1, a.2⟩) (fun _ => rfl) Try.underlying38 (by kernel_rfl) (OpensF.cons rfl (by kernel_rfl) (Opens.bool Try.underlying4) (OpensF.one rfl (by kernel_rfl) (Opens.slice (b := 8) Try.underlying36 (by kernel_rfl) (by kernel_rfl) (by decide) (Opens.int Try.underlying3))))).mono (fun _ h => h)
/-- THE ONE PURE STATEMENT of interregnumlaw06_PathPrepends. -/
def Pure : Prop := ∀ (x0 : List (S38)) (x1 : Int), (x0.length * 32 ≤ 140737488351232 ∧ ∀ y ∈ x0, B38 y) → ((Lit.int .i64 x1).wf = true) → ∃ k, interregnumlaw06_PathPrepends.f k x0 x1 = some true
theorem arg0 : Opens Try.prog 22 (Kd.slice 38 k38) (fun x => x.length * 32 ≤ 140737488351232 ∧ ∀ y ∈ x, B38 y) := (Opens.slice (b := 32) Try.underlying22 (by kernel_rfl) (by kernel_rfl) (by decide) o38)
theorem arg1 : Opens Try.prog 3 (Kd.int .i64) (fun x => (Lit.int .i64 x).wf = true) := (Opens.int Try.underlying3)
end Go.Proofs.Ytpkckkmgnlhhcaa.BndPathPrepends
