-- Lean text by a program of this repo (wip/tools/printx.py), out of Lean's own print of the translation
import Derived.Test.YtndmlmfkbkefcaaPPrefixBackx7
import Derived.Test.YtndmlmfkbkefcaaPPrefixBackx0
import Derived.Test.YtndmlmfkbkefcaaOpen
import Derived.KernelRfl
namespace Go.Proofs.Ytndmlmfkbkefcaa.BndPrefixBack
open Go.RowKit Go.Proofs.Ytndmlmfkbkefcaa.PPrefixBack Go.Proofs.YtndmlmfkbkefcaaW.PrintWords Go.Proofs.YtndmlmfkbkefcaaW.PrintLast Go.Proofs.Ytndmlmfkbkefcaa.Open
set_option linter.unusedVariables false
set_option maxRecDepth 100000
def B32 (x : S32) : Prop := ((Lit.int .u32 x.f0).wf = true) ∧ ((Lit.int .i64 x.f1).wf = true)
theorem o32 : Opens Try.prog 32 k32 B32 :=
  (Opens.struct (fun x : S32 => (x.f0, x.f1)) (fun a => ⟨a.1, a.2⟩) (fun _ => rfl) Try.underlying32 (by kernel_rfl) (OpensF.cons rfl (by kernel_rfl) (Opens.int Try.underlying24) (OpensF.one rfl (by kernel_rfl) (Opens.int Try.underlying3)))).mono (fun _ h => h)
/-- THE ONE PURE STATEMENT of interregnumlaw05_PrefixBack. -/
def Pure : Prop := ∀ (x0 : List (S32)), (x0.length * 16 ≤ 140737488351232 ∧ ∀ y ∈ x0, B32 y) → ∃ k, interregnumlaw05_PrefixBack.f k x0 = some true
theorem arg0 : Opens Try.prog 37 (Kd.slice 32 k32) (fun x => x.length * 16 ≤ 140737488351232 ∧ ∀ y ∈ x, B32 y) := (Opens.slice (b := 16) Try.underlying37 (by kernel_rfl) (by kernel_rfl) (by decide) o32)
end Go.Proofs.Ytndmlmfkbkefcaa.BndPrefixBack
