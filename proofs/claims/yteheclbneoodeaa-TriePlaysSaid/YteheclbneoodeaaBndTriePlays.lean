-- Lean text by a program of this repo (wip/tools/printx.py), out of Lean's own print of the translation
import Derived.Test.YteheclbneoodeaaPTriePlaysx5
import Derived.Test.YteheclbneoodeaaPTriePlaysx0
import Derived.Test.YteheclbneoodeaaOpen
import Derived.KernelRfl
namespace Go.Proofs.Yteheclbneoodeaa.BndTriePlays
open Go.RowKit Go.Proofs.Yteheclbneoodeaa.PTriePlays Go.Proofs.YteheclbneoodeaaW.PrintWords Go.Proofs.YteheclbneoodeaaW.PrintLast Go.Proofs.Yteheclbneoodeaa.Open
set_option linter.unusedVariables false
set_option maxRecDepth 100000
def B47 (x : S47) : Prop := ((Lit.int .u32 x.f0).wf = true) ∧ ((Lit.int .i64 x.f1).wf = true)
theorem o47 : Opens Try.prog 47 k47 B47 :=
  (Opens.struct (fun x : S47 => (x.f0, x.f1)) (fun a => ⟨a.1, a.2⟩) (fun _ => rfl) Try.underlying47 (by kernel_rfl) (OpensF.cons rfl (by kernel_rfl) (Opens.int Try.underlying42) (OpensF.one rfl (by kernel_rfl) (Opens.int Try.underlying3)))).mono (fun _ h => h)
def B62 (x : S62) : Prop := (True) ∧ (B47 x.f1) ∧ ((Lit.int .i64 x.f2).wf = true)
theorem o62 : Opens Try.prog 62 k62 B62 :=
  (Opens.struct (fun x : S62 => (x.f0, x.f1, x.f2)) (fun a => ⟨a.1, a.2.1, a.2.2⟩) (fun _ => rfl) Try.underlying62 (by kernel_rfl) (OpensF.cons rfl (by kernel_rfl) (Opens.bool Try.underlying4) (OpensF.cons rfl (by kernel_rfl) o47 (OpensF.one rfl (by kernel_rfl) (Opens.int Try.underlying3))))).mono (fun _ h => h)
/-- THE ONE PURE STATEMENT of interregnumlaw11_TriePlays. -/
def Pure : Prop := ∀ (x0 : List (S62)) (x1 : List Int), (x0.length * 32 ≤ 140737488351232 ∧ ∀ y ∈ x0, B62 y) → (x1.length * 4 ≤ 140737488351232 ∧ ∀ y ∈ x1, (Lit.int .u32 y).wf = true) → ∃ k, interregnumlaw11_TriePlays.f k x0 x1 = some true
theorem arg0 : Opens Try.prog 59 (Kd.slice 62 k62) (fun x => x.length * 32 ≤ 140737488351232 ∧ ∀ y ∈ x, B62 y) := (Opens.slice (b := 32) Try.underlying59 (by kernel_rfl) (by kernel_rfl) (by decide) o62)
theorem arg1 : Opens Try.prog 60 (Kd.slice 42 (Kd.int .u32)) (fun x => x.length * 4 ≤ 140737488351232 ∧ ∀ y ∈ x, (Lit.int .u32 y).wf = true) := (Opens.slice (b := 4) Try.underlying60 (by kernel_rfl) (by kernel_rfl) (by decide) (Opens.int Try.underlying42))
end Go.Proofs.Yteheclbneoodeaa.BndTriePlays
