-- Lean text by a program of this repo (wip/tools/printx.py), out of Lean's own print of the translation
import Derived.Test.YtjaibpphlbddoaaPSectorNonex2
import Derived.Test.YtjaibpphlbddoaaPSectorNonex0
import Derived.Test.YtjaibpphlbddoaaOpen
import Derived.KernelRfl
namespace Go.Proofs.Ytjaibpphlbddoaa.BndSectorNone
open Go.RowKit Go.Proofs.Ytjaibpphlbddoaa.PSectorNone Go.Proofs.YtjaibpphlbddoaaW.PrintWords Go.Proofs.YtjaibpphlbddoaaW.PrintLast Go.Proofs.Ytjaibpphlbddoaa.Open
set_option linter.unusedVariables false
set_option maxRecDepth 100000
/-- THE ONE PURE STATEMENT of interregnumlaw02_SectorNone. -/
def Pure : Prop := ∀ (x0 : Int) (x1 : List Int), ((Lit.int .i64 x0).wf = true) → (x1.length * 1 ≤ 140737488351232 ∧ ∀ y ∈ x1, (Lit.int .u8 y).wf = true) → interregnumlaw02_SectorNone.f x0 x1 = some true
theorem arg0 : Opens Try.prog 3 (Kd.int .i64) (fun x => (Lit.int .i64 x).wf = true) := (Opens.int Try.underlying3)
theorem arg1 : Opens Try.prog 22 (Kd.slice 5 (Kd.int .u8)) (fun x => x.length * 1 ≤ 140737488351232 ∧ ∀ y ∈ x, (Lit.int .u8 y).wf = true) := (Opens.slice (b := 1) Try.underlying22 (by kernel_rfl) (by kernel_rfl) (by decide) (Opens.int Try.underlying5))
end Go.Proofs.Ytjaibpphlbddoaa.BndSectorNone
