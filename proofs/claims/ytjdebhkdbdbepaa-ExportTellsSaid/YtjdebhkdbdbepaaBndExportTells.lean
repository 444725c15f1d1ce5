-- Lean text by a program of this repo (wip/tools/printx.py), out of Lean's own print of the translation
import Derived.Test.YtjdebhkdbdbepaaPExportTellsx14
import Derived.Test.YtjdebhkdbdbepaaPExportTellsx0
import Derived.Test.YtjdebhkdbdbepaaOpen
import Derived.KernelRfl
namespace Go.Proofs.Ytjdebhkdbdbepaa.BndExportTells
open Go.RowKit Go.Proofs.Ytjdebhkdbdbepaa.PExportTells Go.Proofs.YtjdebhkdbdbepaaW.PrintWords Go.Proofs.YtjdebhkdbdbepaaW.PrintLast Go.Proofs.Ytjdebhkdbdbepaa.Open
set_option linter.unusedVariables false
set_option maxRecDepth 100000
def B24 (x : S24) : Prop := ((Lit.int .i64 x.f0).wf = true) ∧ ((Lit.int .u32 x.f1).wf = true) ∧ ((Lit.int .u32 x.f2).wf = true) ∧ ((Lit.int .i64 x.f3).wf = true) ∧ ((Lit.int .i64 x.f4).wf = true) ∧ ((Lit.int .i64 x.f5).wf = true) ∧ ((Lit.int .i64 x.f6).wf = true) ∧ ((Lit.int .i64 x.f7).wf = true)
theorem o24 : Opens Try.prog 24 k24 B24 :=
  (Opens.struct (fun x : S24 => (x.f0, x.f1, x.f2, x.f3, x.f4, x.f5, x.f6, x.f7)) (fun a => ⟨a.1, a.2.1, a.2.2.1, a.2.2.2.1, a.2.2.2.2.1, a.2.2.2.2.2.1, a.2.2.2.2.2.2.1, a.2.2.2.2.2.2.2⟩) (fun _ => rfl) Try.underlying24 (by kernel_rfl) (OpensF.cons rfl (by kernel_rfl) (Opens.int Try.underlying3) (OpensF.cons rfl (by kernel_rfl) (Opens.int Try.underlying22) (OpensF.cons rfl (by kernel_rfl) (Opens.int Try.underlying22) (OpensF.cons rfl (by kernel_rfl) (Opens.int Try.underlying3) (OpensF.cons rfl (by kernel_rfl) (Opens.int Try.underlying3) (OpensF.cons rfl (by kernel_rfl) (Opens.int Try.underlying3) (OpensF.cons rfl (by kernel_rfl) (Opens.int Try.underlying3) (OpensF.one rfl (by kernel_rfl) (Opens.int Try.underlying3)))))))))).mono (fun _ h => h)
def B29 (x : S29) : Prop := ((Lit.int .u32 x.f0).wf = true) ∧ ((Lit.int .i64 x.f1).wf = true)
theorem o29 : Opens Try.prog 29 k29 B29 :=
  (Opens.struct (fun x : S29 => (x.f0, x.f1)) (fun a => ⟨a.1, a.2⟩) (fun _ => rfl) Try.underlying29 (by kernel_rfl) (OpensF.cons rfl (by kernel_rfl) (Opens.int Try.underlying22) (OpensF.one rfl (by kernel_rfl) (Opens.int Try.underlying3)))).mono (fun _ h => h)
def B87 (x : S87) : Prop := (B29 x.f0) ∧ ((Lit.int .i64 x.f1).wf = true) ∧ ((Lit.int .i64 x.f2).wf = true) ∧ (True) ∧ ((Lit.int .i64 x.f4).wf = true)
theorem o87 : Opens Try.prog 87 k87 B87 :=
  (Opens.struct (fun x : S87 => (x.f0, x.f1, x.f2, x.f3, x.f4)) (fun a => ⟨a.1, a.2.1, a.2.2.1, a.2.2.2.1, a.2.2.2.2⟩) (fun _ => rfl) Try.underlying87 (by kernel_rfl) (OpensF.cons rfl (by kernel_rfl) o29 (OpensF.cons rfl (by kernel_rfl) (Opens.int Try.underlying3) (OpensF.cons rfl (by kernel_rfl) (Opens.int Try.underlying3) (OpensF.cons rfl (by kernel_rfl) (Opens.bool Try.underlying4) (OpensF.one rfl (by kernel_rfl) (Opens.int Try.underlying3))))))).mono (fun _ h => h)
def B27 (x : S27) : Prop := ((Lit.int .i64 x.f0).wf = true) ∧ ((Lit.int .i64 x.f1).wf = true) ∧ (x.f2.length * 48 ≤ 140737488351232 ∧ ∀ y ∈ x.f2, B87 y) ∧ (x.f3.length * 48 ≤ 140737488351232 ∧ ∀ y ∈ x.f3, B87 y)
theorem o27 : Opens Try.prog 27 k27 B27 :=
  (Opens.struct (fun x : S27 => (x.f0, x.f1, x.f2, x.f3)) (fun a => ⟨a.1, a.2.1, a.2.2.1, a.2.2.2⟩) (fun _ => rfl) Try.underlying27 (by kernel_rfl) (OpensF.cons rfl (by kernel_rfl) (Opens.int Try.underlying3) (OpensF.cons rfl (by kernel_rfl) (Opens.int Try.underlying3) (OpensF.cons rfl (by kernel_rfl) (Opens.slice (b := 48) Try.underlying25 (by kernel_rfl) (by kernel_rfl) (by decide) o87) (OpensF.one rfl (by kernel_rfl) (Opens.slice (b := 48) Try.underlying25 (by kernel_rfl) (by kernel_rfl) (by decide) o87)))))).mono (fun _ h => h)
def B69 (x : S69) : Prop := (True) ∧ (x.f1.length * 8 ≤ 140737488351232 ∧ ∀ y ∈ x.f1, (Lit.int .i64 y).wf = true)
theorem o69 : Opens Try.prog 69 k69 B69 :=
  (Opens.struct (fun x : S69 => (x.f0, x.f1)) (fun a => ⟨a.1, a.2⟩) (fun _ => rfl) Try.underlying69 (by kernel_rfl) (OpensF.cons rfl (by kernel_rfl) (Opens.bool Try.underlying4) (OpensF.one rfl (by kernel_rfl) (Opens.slice (b := 8) Try.underlying67 (by kernel_rfl) (by kernel_rfl) (by decide) (Opens.int Try.underlying3))))).mono (fun _ h => h)
def B73 (x : S73) : Prop := ((Lit.int .i64 x.f0).wf = true) ∧ ((Lit.int .i64 x.f1).wf = true) ∧ (x.f2.length * 1 ≤ 140737488351232 ∧ ∀ y ∈ x.f2, (Lit.int .u8 y).wf = true)
theorem o73 : Opens Try.prog 73 k73 B73 :=
  (Opens.struct (fun x : S73 => (x.f0, x.f1, x.f2)) (fun a => ⟨a.1, a.2.1, a.2.2⟩) (fun _ => rfl) Try.underlying73 (by kernel_rfl) (OpensF.cons rfl (by kernel_rfl) (Opens.int Try.underlying3) (OpensF.cons rfl (by kernel_rfl) (Opens.int Try.underlying3) (OpensF.one rfl (by kernel_rfl) (Opens.slice (b := 1) Try.underlying71 (by kernel_rfl) (by kernel_rfl) (by decide) (Opens.int Try.underlying5)))))).mono (fun _ h => h)
def B34 (x : S34) : Prop := ((Lit.int .i64 x.f0).wf = true) ∧ (x.f1.length * 32 ≤ 140737488351232 ∧ ∀ y ∈ x.f1, B69 y) ∧ ((Lit.int .u32 x.f2).wf = true) ∧ ((Lit.int .i64 x.f3).wf = true) ∧ ((Lit.int .i64 x.f4).wf = true) ∧ (x.f5.length * 4 ≤ 140737488351232 ∧ ∀ y ∈ x.f5, (Lit.int .u32 y).wf = true) ∧ (x.f6.length * 40 ≤ 140737488351232 ∧ ∀ y ∈ x.f6, B73 y)
theorem o34 : Opens Try.prog 34 k34 B34 :=
  (Opens.struct (fun x : S34 => (x.f0, x.f1, x.f2, x.f3, x.f4, x.f5, x.f6)) (fun a => ⟨a.1, a.2.1, a.2.2.1, a.2.2.2.1, a.2.2.2.2.1, a.2.2.2.2.2.1, a.2.2.2.2.2.2⟩) (fun _ => rfl) Try.underlying34 (by kernel_rfl) (OpensF.cons rfl (by kernel_rfl) (Opens.int Try.underlying3) (OpensF.cons rfl (by kernel_rfl) (Opens.slice (b := 32) Try.underlying30 (by kernel_rfl) (by kernel_rfl) (by decide) o69) (OpensF.cons rfl (by kernel_rfl) (Opens.int Try.underlying22) (OpensF.cons rfl (by kernel_rfl) (Opens.int Try.underlying3) (OpensF.cons rfl (by kernel_rfl) (Opens.int Try.underlying3) (OpensF.cons rfl (by kernel_rfl) (Opens.slice (b := 4) Try.underlying31 (by kernel_rfl) (by kernel_rfl) (by decide) (Opens.int Try.underlying22)) (OpensF.one rfl (by kernel_rfl) (Opens.slice (b := 40) Try.underlying32 (by kernel_rfl) (by kernel_rfl) (by decide) o73))))))))).mono (fun _ h => h)
def B36 (x : S36) : Prop := (B29 x.f0) ∧ ((Lit.int .i64 x.f1).wf = true) ∧ (B34 x.f2) ∧ ((Lit.int .i64 x.f3).wf = true)
theorem o36 : Opens Try.prog 36 k36 B36 :=
  (Opens.struct (fun x : S36 => (x.f0, x.f1, x.f2, x.f3)) (fun a => ⟨a.1, a.2.1, a.2.2.1, a.2.2.2⟩) (fun _ => rfl) Try.underlying36 (by kernel_rfl) (OpensF.cons rfl (by kernel_rfl) o29 (OpensF.cons rfl (by kernel_rfl) (Opens.int Try.underlying3) (OpensF.cons rfl (by kernel_rfl) o34 (OpensF.one rfl (by kernel_rfl) (Opens.int Try.underlying3)))))).mono (fun _ h => h)
/-- THE ONE PURE STATEMENT of interregnumlaw16_ExportTells. -/
def Pure : Prop := ∀ (x0 : S24) (x1 : S27) (x2 : Bool) (x3 : S36) (x4 : Int), (B24 x0) → (B27 x1) → (B36 x3) → ((Lit.int .i64 x4).wf = true) → ∃ k, interregnumlaw16_ExportTells.f k x0.f0 x0.f1 x0.f2 x0.f3 x0.f4 x0.f5 x0.f6 x0.f7 x1.f0 x1.f1 x1.f2 x1.f3 x2 x3.f0.f0 x3.f0.f1 x3.f1 x3.f2.f0 x3.f2.f1 x3.f2.f2 x3.f2.f3 x3.f2.f4 x3.f2.f5 x3.f2.f6 x3.f3 x4 = some true
theorem arg0 : Opens Try.prog 24 k24 (fun x => B24 x) := o24
theorem arg1 : Opens Try.prog 27 k27 (fun x => B27 x) := o27
theorem arg2 : Opens Try.prog 4 Kd.bool (fun x => True) := (Opens.bool Try.underlying4)
theorem arg3 : Opens Try.prog 36 k36 (fun x => B36 x) := o36
theorem arg4 : Opens Try.prog 3 (Kd.int .i64) (fun x => (Lit.int .i64 x).wf = true) := (Opens.int Try.underlying3)
end Go.Proofs.Ytjdebhkdbdbepaa.BndExportTells
