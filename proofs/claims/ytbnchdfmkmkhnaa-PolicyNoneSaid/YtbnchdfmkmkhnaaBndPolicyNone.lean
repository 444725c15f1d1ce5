-- Lean text by a program of this repo (wip/tools/printx.py), out of Lean's own print of the translation
import Derived.Test.YtbnchdfmkmkhnaaPPolicyNonex6
import Derived.Test.YtbnchdfmkmkhnaaPPolicyNonex0
import Derived.Test.YtbnchdfmkmkhnaaOpen
import Derived.KernelRfl
namespace Go.Proofs.Ytbnchdfmkmkhnaa.BndPolicyNone
open Go.RowKit Go.Proofs.Ytbnchdfmkmkhnaa.PPolicyNone Go.Proofs.YtbnchdfmkmkhnaaW.PrintWords Go.Proofs.YtbnchdfmkmkhnaaW.PrintLast Go.Proofs.Ytbnchdfmkmkhnaa.Open
set_option linter.unusedVariables false
set_option maxRecDepth 100000
def B45 (x : S45) : Prop := ((Lit.int .u32 x.f0).wf = true) ∧ ((Lit.int .i64 x.f1).wf = true)
theorem o45 : Opens Try.prog 45 k45 B45 :=
  (Opens.struct (fun x : S45 => (x.f0, x.f1)) (fun a => ⟨a.1, a.2⟩) (fun _ => rfl) Try.underlying45 (by kernel_rfl) (OpensF.cons rfl (by kernel_rfl) (Opens.int Try.underlying43) (OpensF.one rfl (by kernel_rfl) (Opens.int Try.underlying3)))).mono (fun _ h => h)
/-- THE ONE PURE STATEMENT of interregnumlaw12_PolicyNone. -/
def Pure : Prop := ∀ (x0 : S45) (x1 : Int) (x2 : Int), (B45 x0) → ((Lit.int .u8 x1).wf = true) → ((Lit.int .i64 x2).wf = true) → ∃ k, interregnumlaw12_PolicyNone.f k x0.f0 x0.f1 x1 x2 = some true
theorem arg0 : Opens Try.prog 45 k45 (fun x => B45 x) := o45
theorem arg1 : Opens Try.prog 5 (Kd.int .u8) (fun x => (Lit.int .u8 x).wf = true) := (Opens.int Try.underlying5)
theorem arg2 : Opens Try.prog 3 (Kd.int .i64) (fun x => (Lit.int .i64 x).wf = true) := (Opens.int Try.underlying3)
end Go.Proofs.Ytbnchdfmkmkhnaa.BndPolicyNone
