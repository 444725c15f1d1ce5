-- Lean text by a program of this repo (wip/tools/printx.py), out of Lean's own print of the translation
import Derived.Test.YtpkckkmgnlhhcaaPRouteOwnx8
import Derived.Test.YtpkckkmgnlhhcaaPRouteOwnx0
import Derived.Test.YtpkckkmgnlhhcaaOpen
import Derived.KernelRfl
namespace Go.Proofs.Ytpkckkmgnlhhcaa.BndRouteOwn
open Go.RowKit Go.Proofs.Ytpkckkmgnlhhcaa.PRouteOwn Go.Proofs.YtpkckkmgnlhhcaaW.PrintWords Go.Proofs.YtpkckkmgnlhhcaaW.PrintLast Go.Proofs.Ytpkckkmgnlhhcaa.Open
set_option linter.unusedVariables false
set_option maxRecDepth 100000
def B42 (x : S42) : Prop := ((Lit.int .u32 x.f0).wf = true) ∧ ((Lit.int .i64 x.f1).wf = true)
theorem o42 : Opens Try.prog 42 k42 B42 :=
  (Opens.struct (fun x : S42 => (x.f0, x.f1)) (fun a => ⟨a.1, a.2⟩) (fun _ => rfl) Try.underlying42 (by kernel_rfl) (OpensF.cons rfl (by kernel_rfl) (Opens.int Try.underlying40) (OpensF.one rfl (by kernel_rfl) (Opens.int Try.underlying3)))).mono (fun _ h => h)
def B38 (x : S38) : Prop := (True) ∧ (x.f1.length * 8 ≤ 140737488351232 ∧ ∀ y ∈ x.f1, (Lit.int .i64 y).wf = true)
theorem o38 : Opens Try.prog 38 k38 B38 :=
  (Opens.struct (fun x : S38 => (x.f0, x.f1)) (fun a => ⟨a.1, a.2⟩) (fun _ => rfl) Try.underlying38 (by kernel_rfl) (OpensF.cons rfl (by kernel_rfl) (Opens.bool Try.underlying4) (OpensF.one rfl (by kernel_rfl) (Opens.slice (b := 8) Try.underlying36 (by kernel_rfl) (by kernel_rfl) (by decide) (Opens.int Try.underlying3))))).mono (fun _ h => h)
def B58 (x : S58) : Prop := ((Lit.int .i64 x.f0).wf = true) ∧ ((Lit.int .i64 x.f1).wf = true) ∧ (x.f2.length * 1 ≤ 140737488351232 ∧ ∀ y ∈ x.f2, (Lit.int .u8 y).wf = true)
theorem o58 : Opens Try.prog 58 k58 B58 :=
  (Opens.struct (fun x : S58 => (x.f0, x.f1, x.f2)) (fun a => ⟨a.1, a.2.1, a.2.2⟩) (fun _ => rfl) Try.underlying58 (by kernel_rfl) (OpensF.cons rfl (by kernel_rfl) (Opens.int Try.underlying3) (OpensF.cons rfl (by kernel_rfl) (Opens.int Try.underlying3) (OpensF.one rfl (by kernel_rfl) (Opens.slice (b := 1) Try.underlying25 (by kernel_rfl) (by kernel_rfl) (by decide) (Opens.int Try.underlying5)))))).mono (fun _ h => h)
def B46 (x : S46) : Prop := ((Lit.int .i64 x.f0).wf = true) ∧ (x.f1.length * 32 ≤ 140737488351232 ∧ ∀ y ∈ x.f1, B38 y) ∧ ((Lit.int .u32 x.f2).wf = true) ∧ ((Lit.int .i64 x.f3).wf = true) ∧ ((Lit.int .i64 x.f4).wf = true) ∧ (x.f5.length * 4 ≤ 140737488351232 ∧ ∀ y ∈ x.f5, (Lit.int .u32 y).wf = true) ∧ (x.f6.length * 40 ≤ 140737488351232 ∧ ∀ y ∈ x.f6, B58 y)
theorem o46 : Opens Try.prog 46 k46 B46 :=
  (Opens.struct (fun x : S46 => (x.f0, x.f1, x.f2, x.f3, x.f4, x.f5, x.f6)) (fun a => ⟨a.1, a.2.1, a.2.2.1, a.2.2.2.1, a.2.2.2.2.1, a.2.2.2.2.2.1, a.2.2.2.2.2.2⟩) (fun _ => rfl) Try.underlying46 (by kernel_rfl) (OpensF.cons rfl (by kernel_rfl) (Opens.int Try.underlying3) (OpensF.cons rfl (by kernel_rfl) (Opens.slice (b := 32) Try.underlying22 (by kernel_rfl) (by kernel_rfl) (by decide) o38) (OpensF.cons rfl (by kernel_rfl) (Opens.int Try.underlying40) (OpensF.cons rfl (by kernel_rfl) (Opens.int Try.underlying3) (OpensF.cons rfl (by kernel_rfl) (Opens.int Try.underlying3) (OpensF.cons rfl (by kernel_rfl) (Opens.slice (b := 4) Try.underlying43 (by kernel_rfl) (by kernel_rfl) (by decide) (Opens.int Try.underlying40)) (OpensF.one rfl (by kernel_rfl) (Opens.slice (b := 40) Try.underlying44 (by kernel_rfl) (by kernel_rfl) (by decide) o58))))))))).mono (fun _ h => h)
def B48 (x : S48) : Prop := (B42 x.f0) ∧ ((Lit.int .i64 x.f1).wf = true) ∧ (B46 x.f2) ∧ ((Lit.int .i64 x.f3).wf = true)
theorem o48 : Opens Try.prog 48 k48 B48 :=
  (Opens.struct (fun x : S48 => (x.f0, x.f1, x.f2, x.f3)) (fun a => ⟨a.1, a.2.1, a.2.2.1, a.2.2.2⟩) (fun _ => rfl) Try.underlying48 (by kernel_rfl) (OpensF.cons rfl (by kernel_rfl) o42 (OpensF.cons rfl (by kernel_rfl) (Opens.int Try.underlying3) (OpensF.cons rfl (by kernel_rfl) o46 (OpensF.one rfl (by kernel_rfl) (Opens.int Try.underlying3)))))).mono (fun _ h => h)
/-- THE ONE PURE STATEMENT of interregnumlaw13_RouteOwn. -/
def Pure : Prop := ∀ (x0 : S48), (B48 x0) → ∃ k, interregnumlaw13_RouteOwn.f k x0.f0.f0 x0.f0.f1 x0.f1 x0.f2.f0 x0.f2.f1 x0.f2.f2 x0.f2.f3 x0.f2.f4 x0.f2.f5 x0.f2.f6 x0.f3 = some true
theorem arg0 : Opens Try.prog 48 k48 (fun x => B48 x) := o48
end Go.Proofs.Ytpkckkmgnlhhcaa.BndRouteOwn
