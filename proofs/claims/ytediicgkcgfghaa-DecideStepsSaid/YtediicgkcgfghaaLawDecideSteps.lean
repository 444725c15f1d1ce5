-- Lean text by a program of this repo (wip/tools/printx.py), out of Lean's own print of the translation
import Derived.Test.YtediicgkcgfghaaRows
import Derived.Test.YtediicgkcgfghaaPDecideStepsx4
import Derived.Test.YtediicgkcgfghaaBndDecideSteps
import Derived.Test.YtediicgkcgfghaaPureDecideSteps
import Derived.WalkKit
import Derived.ProofKit
import Derived.OpenShut
import Derived.ShutString
import Derived.ChangeOld
import Derived.Below
import Derived.SizedLaws
namespace Go.Proofs.Ytediicgkcgfghaa.decideSteps
open Go.ChangeShapes Go.WideShapes Go.ChangeAt Go.RowKit Go.Proofs.YtediicgkcgfghaaW.PrintWords Go.Proofs.Ytediicgkcgfghaa.PDecideSteps
open Go.ChangeMaps (open_string shut_string)
set_option linter.unusedVariables false
theorem own : ownKnob Try.prog.godebug = none := by kernel_rfl
theorem laidOut : laidOutB Try.prog = true := by kernel_rfl
set_option maxRecDepth 100000 in
theorem lifted (os : Os) (started : os.Started) (H : Type) (enc : TypeId × Value → H) :
    ReturnsInHanded {} Try.checked os 7 .any (Rows.decideStepsSpec.pre6 enc Try.prog Try.f7 Rows.decideStepsRow.domain false) (Rows.decideStepsSpec.post enc Try.prog Try.f7 false true false false) := by
  refine returnsInHanded_of_change_sized (C := Try.checked) own started (by kernel_rfl) Try.func7
    (ChangeSpec.witness6 (enc := enc) (C := Try.checked) false ⟨#[], #[.int .u8 0, .int .u16 0, .int .u16 0], []⟩ 8 (by kernel_rfl) (by kernel_rfl) (by kernel_rfl) (by kernel_rfl)) ?_
  intro W base args ds gs before hval0 hW hcnd hsz0 _
  have hsz : (DataW.weightsEach Try.prog (Try.f7.params.toList ++ Rows.decideStepsSpec.plain.varTypes Try.prog) (ds ++ gs)).all (· ≤ reachBytes) = true := hsz0
  have hval : ∀ (j : Nat) t v, Try.f7.params[j]? = some t → args[j]? = some v → Value.okWide Try.prog W .any base t v := hval0
  have hW' := hW
  obtain ⟨p, q, hA0, hV, rfl, hfz, hnd⟩ := hW
  have hA : DataW.TrodAll enc Try.prog W 0 (fun _ => true) true Try.f7.params.toList args.toList ds p := hA0
  rw [Try.params7] at hA hval hsz
  obtain ⟨v0, vs0, d0, ds0, p0, q0, hargs, rfl, rfl, h0, r0⟩ := trodAll_cons hA
  obtain ⟨v1, vs1, d1, ds1, p1, q1, rfl, rfl, rfl, h1, r1⟩ := trodAll_cons r0
  obtain ⟨v2, vs2, d2, ds2, p2, q2, rfl, rfl, rfl, h2, r2⟩ := trodAll_cons r1
  obtain ⟨rfl, rfl, rfl⟩ := trodAll_nil r2
  obtain rfl : args = #[v0, v1, v2] := by cases args; simp_all
  obtain ⟨rfl, rfl⟩ := trodVars_none hV
  have k0_ := h0
  have lt0 : ∀ x ∈ p0, x.block < W.heap.size := by obtain ⟨m, hm⟩ := k0_; exact DataW.trod_lt m _ _ _ hm
  obtain ⟨x0, K0, B0⟩ := Open.Opens.arg BndDecideSteps.arg0 hsz 0 rfl rfl h0
  obtain rfl : v0 = .int .u8 x0 := by
    obtain ⟨a_, rfl, _⟩ := open_int Try.underlying5 (hval 0 5 v0 rfl rfl) h0
    simpa [Value.cells, Kd.int, Kd.bool, Kd.string, Kd.scalar] using K0
  have k1_ := h1
  have lt1 : ∀ x ∈ p1, x.block < W.heap.size := by obtain ⟨m, hm⟩ := k1_; exact DataW.trod_lt m _ _ _ hm
  obtain ⟨x1, K1, B1⟩ := Open.Opens.arg BndDecideSteps.arg1 hsz 1 rfl rfl h1
  obtain rfl : v1 = .int .u16 x1 := by
    obtain ⟨a_, rfl, _⟩ := open_int Try.underlying44 (hval 1 44 v1 rfl rfl) h1
    simpa [Value.cells, Kd.int, Kd.bool, Kd.string, Kd.scalar] using K1
  have k2_ := h2
  have lt2 : ∀ x ∈ p2, x.block < W.heap.size := by obtain ⟨m, hm⟩ := k2_; exact DataW.trod_lt m _ _ _ hm
  obtain ⟨x2, K2, B2⟩ := Open.Opens.arg BndDecideSteps.arg2 hsz 2 rfl rfl h2
  obtain rfl : v2 = .int .u16 x2 := by
    obtain ⟨a_, rfl, _⟩ := open_int Try.underlying44 (hval 2 44 v2 rfl rfl) h2
    simpa [Value.cells, Kd.int, Kd.bool, Kd.string, Kd.scalar] using K2
  clear hA0 hval0 hsz0 hsz
  have hf := Pure.DecideSteps x0 x1 x2 B0 B1 B2
  refine (PDecideSteps.interregnumlaw15_DecideSteps.calls (r := true) (w := W)  (h := hf)).mono fun e W' ⟨he, bel0⟩ => ?_
  subst he
  have bel : Below W.heap.size W W' := by first | exact bel0 | exact bel0.below
  exact ⟨_, rfl, _, _, _, [], _, [], hW', trodAll_mk1 (shut_bool Try.underlying4 _), (trodAll_cons_mk (Below.trod laidOut (by kernel_rfl) (of_decide_eq_true (by kernel_rfl)) k0_ bel lt0) (trodAll_cons_mk (Below.trod laidOut (by kernel_rfl) (of_decide_eq_true (by kernel_rfl)) k1_ bel lt1) (trodAll_cons_mk (Below.trod laidOut (by kernel_rfl) (of_decide_eq_true (by kernel_rfl)) k2_ bel lt2) trodAll_mk0))), rfl, bel.frame _, fun h => by cases h⟩
theorem over : Rows.decideStepsRow.holds Try.pinned (OpenSpec.ofChange Rows.decideStepsSpec) :=
  OpenClaim.holds_of_wide 7 Try.f7 rfl rfl rfl rfl rfl rfl rfl ⟨rfl, rfl, rfl, rfl, rfl⟩ rfl rfl rfl rfl rfl (by kernel_rfl) Try.func7 (by kernel_rfl)
    (of_decide_eq_true (by kernel_rfl)) (by unfold Func.isWrapper; first | (rw [if_pos (by decide +kernel)]; kernel_rfl) | (rw [if_neg (by decide +kernel)]; exact ⟨rfl, rfl⟩))
    (fun os started H enc _ => lifted os started H enc)
theorem proved : Rows.DecideStepsSaid := over
#print axioms proved
end Go.Proofs.Ytediicgkcgfghaa.decideSteps
namespace Go.Proofs.Ytediicgkcgfghaa
/-- The row, under a short name, for the claim. -/
theorem decideSteps_holds : Rows.DecideStepsSaid := decideSteps.proved
end Go.Proofs.Ytediicgkcgfghaa
