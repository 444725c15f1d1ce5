-- Lean text by a program of this repo (wip/tools/printx.py), out of Lean's own print of the translation
import Derived.Test.YtbnchdfmkmkhnaaPPolicyFirstx5
import Derived.Test.YtbnchdfmkmkhnaaPPolicyFirstx0
import Derived.Test.YtbnchdfmkmkhnaaOpen
import Derived.KernelRfl
namespace Go.Proofs.Ytbnchdfmkmkhnaa.BndPolicyFirst
open Go.RowKit Go.Proofs.Ytbnchdfmkmkhnaa.PPolicyFirst Go.Proofs.YtbnchdfmkmkhnaaW.PrintWords Go.Proofs.YtbnchdfmkmkhnaaW.PrintLast Go.Proofs.Ytbnchdfmkmkhnaa.Open
set_option linter.unusedVariables false
set_option maxRecDepth 100000
def B45 (x : S45) : Prop := ((Lit.int .u32 x.f0).wf = true) ∧ ((Lit.int .i64 x.f1).wf = true)
theorem o45 : Opens Try.prog 45 k45 B45 :=
  (Opens.struct (fun x : S45 => (x.f0, x.f1)) (fun a => ⟨a.1, a.2⟩) (fun _ => rfl) Try.underlying45 (by kernel_rfl) (OpensF.cons rfl (by kernel_rfl) (Opens.int Try.underlying43) (OpensF.one rfl (by kernel_rfl) (Opens.int Try.underlying3)))).mono (fun _ h => h)
def B50 (x : S50) : Prop := (B45 x.f0) ∧ ((Lit.int .i64 x.f1).wf = true) ∧ ((Lit.int .i64 x.f2).wf = true) ∧ (True) ∧ ((Lit.int .i64 x.f4).wf = true)
theorem o50 : Opens Try.prog 50 k50 B50 :=
  (Opens.struct (fun x : S50 => (x.f0, x.f1, x.f2, x.f3, x.f4)) (fun a => ⟨a.1, a.2.1, a.2.2.1, a.2.2.2.1, a.2.2.2.2⟩) (fun _ => rfl) Try.underlying50 (by kernel_rfl) (OpensF.cons rfl (by kernel_rfl) o45 (OpensF.cons rfl (by kernel_rfl) (Opens.int Try.underlying3) (OpensF.cons rfl (by kernel_rfl) (Opens.int Try.underlying3) (OpensF.cons rfl (by kernel_rfl) (Opens.bool Try.underlying4) (OpensF.one rfl (by kernel_rfl) (Opens.int Try.underlying3))))))).mono (fun _ h => h)
/-- THE ONE PURE STATEMENT of interregnumlaw12_PolicyFirst. -/
def Pure : Prop := ∀ (x0 : S50) (x1 : List (S50)) (x2 : S45), (B50 x0) → (x1.length * 48 ≤ 140737488351232 ∧ ∀ y ∈ x1, B50 y) → (B45 x2) → ∃ k, interregnumlaw12_PolicyFirst.f k x0.f0.f0 x0.f0.f1 x0.f1 x0.f2 x0.f3 x0.f4 x1 x2.f0 x2.f1 = some true
theorem arg0 : Opens Try.prog 50 k50 (fun x => B50 x) := o50
theorem arg1 : Opens Try.prog 42 (Kd.slice 50 k50) (fun x => x.length * 48 ≤ 140737488351232 ∧ ∀ y ∈ x, B50 y) := (Opens.slice (b := 48) Try.underlying42 (by kernel_rfl) (by kernel_rfl) (by decide) o50)
theorem arg2 : Opens Try.prog 45 k45 (fun x => B45 x) := o45
end Go.Proofs.Ytbnchdfmkmkhnaa.BndPolicyFirst
