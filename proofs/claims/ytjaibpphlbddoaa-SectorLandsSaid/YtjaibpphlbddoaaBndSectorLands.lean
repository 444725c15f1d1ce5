-- Lean text by a program of this repo (wip/tools/printx.py), out of Lean's own print of the translation
import Derived.Test.YtjaibpphlbddoaaPSectorLandsx2
import Derived.Test.YtjaibpphlbddoaaPSectorLandsx0
import Derived.Test.YtjaibpphlbddoaaOpen
import Derived.KernelRfl
namespace Go.Proofs.Ytjaibpphlbddoaa.BndSectorLands
open Go.RowKit Go.Proofs.Ytjaibpphlbddoaa.PSectorLands Go.Proofs.YtjaibpphlbddoaaW.PrintWords Go.Proofs.YtjaibpphlbddoaaW.PrintLast Go.Proofs.Ytjaibpphlbddoaa.Open
set_option linter.unusedVariables false
set_option maxRecDepth 100000
/-- THE ONE PURE STATEMENT of interregnumlaw02_SectorLands. -/
def Pure : Prop := ∀ (x0 : List Int) (x1 : Int), (x0.length * 1 ≤ 140737488351232 ∧ ∀ y ∈ x0, (Lit.int .u8 y).wf = true) → ((Lit.int .u64 x1).wf = true) → interregnumlaw02_SectorLands.f x0 x1 = some true
theorem arg0 : Opens Try.prog 22 (Kd.slice 5 (Kd.int .u8)) (fun x => x.length * 1 ≤ 140737488351232 ∧ ∀ y ∈ x, (Lit.int .u8 y).wf = true) := (Opens.slice (b := 1) Try.underlying22 (by kernel_rfl) (by kernel_rfl) (by decide) (Opens.int Try.underlying5))
theorem arg1 : Opens Try.prog 23 (Kd.int .u64) (fun x => (Lit.int .u64 x).wf = true) := (Opens.int Try.underlying23)
end Go.Proofs.Ytjaibpphlbddoaa.BndSectorLands
