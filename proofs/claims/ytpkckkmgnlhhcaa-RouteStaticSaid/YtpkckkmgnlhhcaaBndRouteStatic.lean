-- Lean text by a program of this repo (wip/tools/printx.py), out of Lean's own print of the translation
import Derived.Test.YtpkckkmgnlhhcaaPRouteStaticx6
import Derived.Test.YtpkckkmgnlhhcaaPRouteStaticx0
import Derived.Test.YtpkckkmgnlhhcaaOpen
import Derived.KernelRfl
namespace Go.Proofs.Ytpkckkmgnlhhcaa.BndRouteStatic
open Go.RowKit Go.Proofs.Ytpkckkmgnlhhcaa.PRouteStatic Go.Proofs.YtpkckkmgnlhhcaaW.PrintWords Go.Proofs.YtpkckkmgnlhhcaaW.PrintLast Go.Proofs.Ytpkckkmgnlhhcaa.Open
set_option linter.unusedVariables false
set_option maxRecDepth 100000
def B42 (x : S42) : Prop := ((Lit.int .u32 x.f0).wf = true) ∧ ((Lit.int .i64 x.f1).wf = true)
theorem o42 : Opens Try.prog 42 k42 B42 :=
  (Opens.struct (fun x : S42 => (x.f0, x.f1)) (fun a => ⟨a.1, a.2⟩) (fun _ => rfl) Try.underlying42 (by kernel_rfl) (OpensF.cons rfl (by kernel_rfl) (Opens.int Try.underlying40) (OpensF.one rfl (by kernel_rfl) (Opens.int Try.underlying3)))).mono (fun _ h => h)
/-- THE ONE PURE STATEMENT of interregnumlaw13_RouteStatic. -/
def Pure : Prop := ∀ (x0 : S42) (x1 : Int), (B42 x0) → ((Lit.int .u32 x1).wf = true) → ∃ k, interregnumlaw13_RouteStatic.f k x0.f0 x0.f1 x1 = some true
theorem arg0 : Opens Try.prog 42 k42 (fun x => B42 x) := o42
theorem arg1 : Opens Try.prog 40 (Kd.int .u32) (fun x => (Lit.int .u32 x).wf = true) := (Opens.int Try.underlying40)
end Go.Proofs.Ytpkckkmgnlhhcaa.BndRouteStatic
