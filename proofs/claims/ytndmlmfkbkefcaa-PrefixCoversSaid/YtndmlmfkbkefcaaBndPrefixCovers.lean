-- Lean text by a program of this repo (wip/tools/printx.py), out of Lean's own print of the translation
import Derived.Test.YtndmlmfkbkefcaaPPrefixCoversx8
import Derived.Test.YtndmlmfkbkefcaaPPrefixCoversx0
import Derived.Test.YtndmlmfkbkefcaaOpen
import Derived.KernelRfl
namespace Go.Proofs.Ytndmlmfkbkefcaa.BndPrefixCovers
open Go.RowKit Go.Proofs.Ytndmlmfkbkefcaa.PPrefixCovers Go.Proofs.YtndmlmfkbkefcaaW.PrintWords Go.Proofs.YtndmlmfkbkefcaaW.PrintLast Go.Proofs.Ytndmlmfkbkefcaa.Open
set_option linter.unusedVariables false
set_option maxRecDepth 100000
def B32 (x : S32) : Prop := ((Lit.int .u32 x.f0).wf = true) ∧ ((Lit.int .i64 x.f1).wf = true)
theorem o32 : Opens Try.prog 32 k32 B32 :=
  (Opens.struct (fun x : S32 => (x.f0, x.f1)) (fun a => ⟨a.1, a.2⟩) (fun _ => rfl) Try.underlying32 (by kernel_rfl) (OpensF.cons rfl (by kernel_rfl) (Opens.int Try.underlying24) (OpensF.one rfl (by kernel_rfl) (Opens.int Try.underlying3)))).mono (fun _ h => h)
/-- THE ONE PURE STATEMENT of interregnumlaw05_PrefixCovers. -/
def Pure : Prop := ∀ (x0 : S32) (x1 : S32) (x2 : S32), (B32 x0) → (B32 x1) → (B32 x2) → ∃ k, interregnumlaw05_PrefixCovers.f k x0.f0 x0.f1 x1.f0 x1.f1 x2.f0 x2.f1 = some true
theorem arg0 : Opens Try.prog 32 k32 (fun x => B32 x) := o32
theorem arg1 : Opens Try.prog 32 k32 (fun x => B32 x) := o32
theorem arg2 : Opens Try.prog 32 k32 (fun x => B32 x) := o32
end Go.Proofs.Ytndmlmfkbkefcaa.BndPrefixCovers
