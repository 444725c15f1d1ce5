-- Lean text by a program of this repo (wip/tools/printx.py), out of Lean's own print of the translation
import Derived.Test.YtjaibpphlbddoaaPRegionOtherx5
import Derived.Test.YtjaibpphlbddoaaPRegionOtherx0
import Derived.Test.YtjaibpphlbddoaaOpen
import Derived.KernelRfl
namespace Go.Proofs.Ytjaibpphlbddoaa.BndRegionOther
open Go.RowKit Go.Proofs.Ytjaibpphlbddoaa.PRegionOther Go.Proofs.YtjaibpphlbddoaaW.PrintWords Go.Proofs.YtjaibpphlbddoaaW.PrintLast Go.Proofs.Ytjaibpphlbddoaa.Open
set_option linter.unusedVariables false
set_option maxRecDepth 100000
/-- THE ONE PURE STATEMENT of interregnumlaw03_RegionOther. -/
def Pure : Prop := ∀ (x0 : List Int) (x1 : Int) (x2 : Int), (x0.length * 1 ≤ 140737488351232 ∧ ∀ y ∈ x0, (Lit.int .u8 y).wf = true) → ((Lit.int .u16 x1).wf = true) → ((Lit.int .u16 x2).wf = true) → ∃ k, interregnumlaw03_RegionOther.f k x0 x1 x2 = some true
theorem arg0 : Opens Try.prog 22 (Kd.slice 5 (Kd.int .u8)) (fun x => x.length * 1 ≤ 140737488351232 ∧ ∀ y ∈ x, (Lit.int .u8 y).wf = true) := (Opens.slice (b := 1) Try.underlying22 (by kernel_rfl) (by kernel_rfl) (by decide) (Opens.int Try.underlying5))
theorem arg1 : Opens Try.prog 44 (Kd.int .u16) (fun x => (Lit.int .u16 x).wf = true) := (Opens.int Try.underlying44)
theorem arg2 : Opens Try.prog 44 (Kd.int .u16) (fun x => (Lit.int .u16 x).wf = true) := (Opens.int Try.underlying44)
end Go.Proofs.Ytjaibpphlbddoaa.BndRegionOther
