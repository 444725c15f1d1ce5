-- Lean text by a program of this repo (wip/tools/printx.py), out of Lean's own print of the translation
import Derived.Test.YtbnchdfmkmkhnaaPTrieNonex2
import Derived.Test.YtbnchdfmkmkhnaaPTrieNonex0
import Derived.Test.YtbnchdfmkmkhnaaOpen
import Derived.KernelRfl
namespace Go.Proofs.Ytbnchdfmkmkhnaa.BndTrieNone
open Go.RowKit Go.Proofs.Ytbnchdfmkmkhnaa.PTrieNone Go.Proofs.YtbnchdfmkmkhnaaW.PrintWords Go.Proofs.YtbnchdfmkmkhnaaW.PrintLast Go.Proofs.Ytbnchdfmkmkhnaa.Open
set_option linter.unusedVariables false
set_option maxRecDepth 100000
def B45 (x : S45) : Prop := ((Lit.int .u32 x.f0).wf = true) ∧ ((Lit.int .i64 x.f1).wf = true)
theorem o45 : Opens Try.prog 45 k45 B45 :=
  (Opens.struct (fun x : S45 => (x.f0, x.f1)) (fun a => ⟨a.1, a.2⟩) (fun _ => rfl) Try.underlying45 (by kernel_rfl) (OpensF.cons rfl (by kernel_rfl) (Opens.int Try.underlying43) (OpensF.one rfl (by kernel_rfl) (Opens.int Try.underlying3)))).mono (fun _ h => h)
/-- THE ONE PURE STATEMENT of interregnumlaw11_TrieNone. -/
def Pure : Prop := ∀ (x0 : S45) (x1 : Int), (B45 x0) → ((Lit.int .u32 x1).wf = true) → interregnumlaw11_TrieNone.f x0.f0 x0.f1 x1 = some true
theorem arg0 : Opens Try.prog 45 k45 (fun x => B45 x) := o45
theorem arg1 : Opens Try.prog 43 (Kd.int .u32) (fun x => (Lit.int .u32 x).wf = true) := (Opens.int Try.underlying43)
end Go.Proofs.Ytbnchdfmkmkhnaa.BndTrieNone
