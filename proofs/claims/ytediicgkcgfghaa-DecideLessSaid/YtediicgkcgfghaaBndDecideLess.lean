-- Lean text by a program of this repo (wip/tools/printx.py), out of Lean's own print of the translation
import Derived.Test.YtediicgkcgfghaaPDecideLessx5
import Derived.Test.YtediicgkcgfghaaPDecideLessx0
import Derived.Test.YtediicgkcgfghaaOpen
import Derived.KernelRfl
namespace Go.Proofs.Ytediicgkcgfghaa.BndDecideLess
open Go.RowKit Go.Proofs.Ytediicgkcgfghaa.PDecideLess Go.Proofs.YtediicgkcgfghaaW.PrintWords Go.Proofs.YtediicgkcgfghaaW.PrintLast Go.Proofs.Ytediicgkcgfghaa.Open
set_option linter.unusedVariables false
set_option maxRecDepth 100000
def B49 (x : S49) : Prop := ((Lit.int .i64 x.f0).wf = true) ∧ ((Lit.int .i64 x.f1).wf = true) ∧ ((Lit.int .u32 x.f2).wf = true)
theorem o49 : Opens Try.prog 49 k49 B49 :=
  (Opens.struct (fun x : S49 => (x.f0, x.f1, x.f2)) (fun a => ⟨a.1, a.2.1, a.2.2⟩) (fun _ => rfl) Try.underlying49 (by kernel_rfl) (OpensF.cons rfl (by kernel_rfl) (Opens.int Try.underlying3) (OpensF.cons rfl (by kernel_rfl) (Opens.int Try.underlying3) (OpensF.one rfl (by kernel_rfl) (Opens.int Try.underlying32))))).mono (fun _ h => h)
def B34 (x : S34) : Prop := ((Lit.int .u32 x.f0).wf = true) ∧ ((Lit.int .i64 x.f1).wf = true)
theorem o34 : Opens Try.prog 34 k34 B34 :=
  (Opens.struct (fun x : S34 => (x.f0, x.f1)) (fun a => ⟨a.1, a.2⟩) (fun _ => rfl) Try.underlying34 (by kernel_rfl) (OpensF.cons rfl (by kernel_rfl) (Opens.int Try.underlying32) (OpensF.one rfl (by kernel_rfl) (Opens.int Try.underlying3)))).mono (fun _ h => h)
def B47 (x : S47) : Prop := (True) ∧ (x.f1.length * 8 ≤ 140737488351232 ∧ ∀ y ∈ x.f1, (Lit.int .i64 y).wf = true)
theorem o47 : Opens Try.prog 47 k47 B47 :=
  (Opens.struct (fun x : S47 => (x.f0, x.f1)) (fun a => ⟨a.1, a.2⟩) (fun _ => rfl) Try.underlying47 (by kernel_rfl) (OpensF.cons rfl (by kernel_rfl) (Opens.bool Try.underlying4) (OpensF.one rfl (by kernel_rfl) (Opens.slice (b := 8) Try.underlying45 (by kernel_rfl) (by kernel_rfl) (by decide) (Opens.int Try.underlying3))))).mono (fun _ h => h)
def B102 (x : S102) : Prop := ((Lit.int .i64 x.f0).wf = true) ∧ ((Lit.int .i64 x.f1).wf = true) ∧ (x.f2.length * 1 ≤ 140737488351232 ∧ ∀ y ∈ x.f2, (Lit.int .u8 y).wf = true)
theorem o102 : Opens Try.prog 102 k102 B102 :=
  (Opens.struct (fun x : S102 => (x.f0, x.f1, x.f2)) (fun a => ⟨a.1, a.2.1, a.2.2⟩) (fun _ => rfl) Try.underlying102 (by kernel_rfl) (OpensF.cons rfl (by kernel_rfl) (Opens.int Try.underlying3) (OpensF.cons rfl (by kernel_rfl) (Opens.int Try.underlying3) (OpensF.one rfl (by kernel_rfl) (Opens.slice (b := 1) Try.underlying100 (by kernel_rfl) (by kernel_rfl) (by decide) (Opens.int Try.underlying5)))))).mono (fun _ h => h)
def B39 (x : S39) : Prop := ((Lit.int .i64 x.f0).wf = true) ∧ (x.f1.length * 32 ≤ 140737488351232 ∧ ∀ y ∈ x.f1, B47 y) ∧ ((Lit.int .u32 x.f2).wf = true) ∧ ((Lit.int .i64 x.f3).wf = true) ∧ ((Lit.int .i64 x.f4).wf = true) ∧ (x.f5.length * 4 ≤ 140737488351232 ∧ ∀ y ∈ x.f5, (Lit.int .u32 y).wf = true) ∧ (x.f6.length * 40 ≤ 140737488351232 ∧ ∀ y ∈ x.f6, B102 y)
theorem o39 : Opens Try.prog 39 k39 B39 :=
  (Opens.struct (fun x : S39 => (x.f0, x.f1, x.f2, x.f3, x.f4, x.f5, x.f6)) (fun a => ⟨a.1, a.2.1, a.2.2.1, a.2.2.2.1, a.2.2.2.2.1, a.2.2.2.2.2.1, a.2.2.2.2.2.2⟩) (fun _ => rfl) Try.underlying39 (by kernel_rfl) (OpensF.cons rfl (by kernel_rfl) (Opens.int Try.underlying3) (OpensF.cons rfl (by kernel_rfl) (Opens.slice (b := 32) Try.underlying35 (by kernel_rfl) (by kernel_rfl) (by decide) o47) (OpensF.cons rfl (by kernel_rfl) (Opens.int Try.underlying32) (OpensF.cons rfl (by kernel_rfl) (Opens.int Try.underlying3) (OpensF.cons rfl (by kernel_rfl) (Opens.int Try.underlying3) (OpensF.cons rfl (by kernel_rfl) (Opens.slice (b := 4) Try.underlying36 (by kernel_rfl) (by kernel_rfl) (by decide) (Opens.int Try.underlying32)) (OpensF.one rfl (by kernel_rfl) (Opens.slice (b := 40) Try.underlying37 (by kernel_rfl) (by kernel_rfl) (by decide) o102))))))))).mono (fun _ h => h)
def B41 (x : S41) : Prop := (B34 x.f0) ∧ ((Lit.int .i64 x.f1).wf = true) ∧ (B39 x.f2) ∧ ((Lit.int .i64 x.f3).wf = true)
theorem o41 : Opens Try.prog 41 k41 B41 :=
  (Opens.struct (fun x : S41 => (x.f0, x.f1, x.f2, x.f3)) (fun a => ⟨a.1, a.2.1, a.2.2.1, a.2.2.2⟩) (fun _ => rfl) Try.underlying41 (by kernel_rfl) (OpensF.cons rfl (by kernel_rfl) o34 (OpensF.cons rfl (by kernel_rfl) (Opens.int Try.underlying3) (OpensF.cons rfl (by kernel_rfl) o39 (OpensF.one rfl (by kernel_rfl) (Opens.int Try.underlying3)))))).mono (fun _ h => h)
/-- THE ONE PURE STATEMENT of interregnumlaw15_DecideLess. -/
def Pure : Prop := ∀ (x0 : Int) (x1 : List (S49)) (x2 : List (S41)) (x3 : Int), ((Lit.int .i64 x0).wf = true) → (x1.length * 24 ≤ 140737488351232 ∧ ∀ y ∈ x1, B49 y) → (x2.length * 136 ≤ 140737488351232 ∧ ∀ y ∈ x2, B41 y) → ((Lit.int .u8 x3).wf = true) → ∃ k, interregnumlaw15_DecideLess.f k x0 x1 x2 x3 = some true
theorem arg0 : Opens Try.prog 3 (Kd.int .i64) (fun x => (Lit.int .i64 x).wf = true) := (Opens.int Try.underlying3)
theorem arg1 : Opens Try.prog 22 (Kd.slice 49 k49) (fun x => x.length * 24 ≤ 140737488351232 ∧ ∀ y ∈ x, B49 y) := (Opens.slice (b := 24) Try.underlying22 (by kernel_rfl) (by kernel_rfl) (by decide) o49)
theorem arg2 : Opens Try.prog 23 (Kd.slice 41 k41) (fun x => x.length * 136 ≤ 140737488351232 ∧ ∀ y ∈ x, B41 y) := (Opens.slice (b := 136) Try.underlying23 (by kernel_rfl) (by kernel_rfl) (by decide) o41)
theorem arg3 : Opens Try.prog 5 (Kd.int .u8) (fun x => (Lit.int .u8 x).wf = true) := (Opens.int Try.underlying5)
end Go.Proofs.Ytediicgkcgfghaa.BndDecideLess
