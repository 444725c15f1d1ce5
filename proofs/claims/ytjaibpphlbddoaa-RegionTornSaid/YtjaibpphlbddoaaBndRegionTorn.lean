-- Lean text by a program of this repo (wip/tools/printx.py), out of Lean's own print of the translation
import Derived.Test.YtjaibpphlbddoaaPRegionTornx5
import Derived.Test.YtjaibpphlbddoaaPRegionTornx0
import Derived.Test.YtjaibpphlbddoaaOpen
import Derived.KernelRfl
namespace Go.Proofs.Ytjaibpphlbddoaa.BndRegionTorn
open Go.RowKit Go.Proofs.Ytjaibpphlbddoaa.PRegionTorn Go.Proofs.YtjaibpphlbddoaaW.PrintWords Go.Proofs.YtjaibpphlbddoaaW.PrintLast Go.Proofs.Ytjaibpphlbddoaa.Open
set_option linter.unusedVariables false
set_option maxRecDepth 100000
/-- THE ONE PURE STATEMENT of interregnumlaw03_RegionTorn. -/
def Pure : Prop := ∀ (x0 : List Int) (x1 : List Int) (x2 : Int) (x3 : Int) (x4 : Int) (x5 : Int), (x0.length * 1 ≤ 140737488351232 ∧ ∀ y ∈ x0, (Lit.int .u8 y).wf = true) → (x1.length * 1 ≤ 140737488351232 ∧ ∀ y ∈ x1, (Lit.int .u8 y).wf = true) → ((Lit.int .u8 x2).wf = true) → ((Lit.int .u64 x3).wf = true) → ((Lit.int .i64 x4).wf = true) → ((Lit.int .i64 x5).wf = true) → ∃ k, interregnumlaw03_RegionTorn.f k x0 x1 x2 x3 x4 x5 = some true
theorem arg0 : Opens Try.prog 22 (Kd.slice 5 (Kd.int .u8)) (fun x => x.length * 1 ≤ 140737488351232 ∧ ∀ y ∈ x, (Lit.int .u8 y).wf = true) := (Opens.slice (b := 1) Try.underlying22 (by kernel_rfl) (by kernel_rfl) (by decide) (Opens.int Try.underlying5))
theorem arg1 : Opens Try.prog 22 (Kd.slice 5 (Kd.int .u8)) (fun x => x.length * 1 ≤ 140737488351232 ∧ ∀ y ∈ x, (Lit.int .u8 y).wf = true) := (Opens.slice (b := 1) Try.underlying22 (by kernel_rfl) (by kernel_rfl) (by decide) (Opens.int Try.underlying5))
theorem arg2 : Opens Try.prog 5 (Kd.int .u8) (fun x => (Lit.int .u8 x).wf = true) := (Opens.int Try.underlying5)
theorem arg3 : Opens Try.prog 23 (Kd.int .u64) (fun x => (Lit.int .u64 x).wf = true) := (Opens.int Try.underlying23)
theorem arg4 : Opens Try.prog 3 (Kd.int .i64) (fun x => (Lit.int .i64 x).wf = true) := (Opens.int Try.underlying3)
theorem arg5 : Opens Try.prog 3 (Kd.int .i64) (fun x => (Lit.int .i64 x).wf = true) := (Opens.int Try.underlying3)
end Go.Proofs.Ytjaibpphlbddoaa.BndRegionTorn
