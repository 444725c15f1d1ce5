-- Lean text by a program of this repo (wip/tools/printx.py), out of Lean's own print of the translation
import Derived.Test.YteheclbneoodeaaPTimerPlaysx2
import Derived.Test.YteheclbneoodeaaPTimerPlaysx0
import Derived.Test.YteheclbneoodeaaOpen
import Derived.KernelRfl
namespace Go.Proofs.Yteheclbneoodeaa.BndTimerPlays
open Go.RowKit Go.Proofs.Yteheclbneoodeaa.PTimerPlays Go.Proofs.YteheclbneoodeaaW.PrintWords Go.Proofs.YteheclbneoodeaaW.PrintLast Go.Proofs.Yteheclbneoodeaa.Open
set_option linter.unusedVariables false
set_option maxRecDepth 100000
def B36 (x : S36) : Prop := ((Lit.int .i64 x.f0).wf = true) ∧ ((Lit.int .i64 x.f1).wf = true) ∧ (x.f2.size ≤ 140737488351232)
theorem o36 : Opens Try.prog 36 k36 B36 :=
  (Opens.struct (fun x : S36 => (x.f0, x.f1, x.f2)) (fun a => ⟨a.1, a.2.1, a.2.2⟩) (fun _ => rfl) Try.underlying36 (by kernel_rfl) (OpensF.cons rfl (by kernel_rfl) (Opens.int Try.underlying3) (OpensF.cons rfl (by kernel_rfl) (Opens.int Try.underlying3) (OpensF.one rfl (by kernel_rfl) (Opens.string Try.underlying9))))).mono (fun _ h => h)
/-- THE ONE PURE STATEMENT of interregnumlaw17_TimerPlays. -/
def Pure : Prop := ∀ (x0 : List (S36)), (x0.length * 32 ≤ 140737488351232 ∧ ∀ y ∈ x0, B36 y) → ∃ k, interregnumlaw17_TimerPlays.f k x0 = some true
theorem arg0 : Opens Try.prog 32 (Kd.slice 36 k36) (fun x => x.length * 32 ≤ 140737488351232 ∧ ∀ y ∈ x, B36 y) := (Opens.slice (b := 32) Try.underlying32 (by kernel_rfl) (by kernel_rfl) (by decide) o36)
end Go.Proofs.Yteheclbneoodeaa.BndTimerPlays
