-- Lean text by a program of this repo (wip/tools/printx.py), out of Lean's own print of the translation
import Derived.Test.YtbnchdfmkmkhnaaRows
import Derived.Test.YtbnchdfmkmkhnaaPTimerNonex1
import Derived.Test.YtbnchdfmkmkhnaaBndTimerNone
import Derived.Test.YtbnchdfmkmkhnaaPureTimerNone
import Derived.WalkKit
import Derived.ProofKit
import Derived.OpenShut
import Derived.ShutString
import Derived.ChangeOld
import Derived.Below
import Derived.SizedLaws
namespace Go.Proofs.Ytbnchdfmkmkhnaa.timerNone
open Go.ChangeShapes Go.WideShapes Go.ChangeAt Go.RowKit Go.Proofs.YtbnchdfmkmkhnaaW.PrintWords Go.Proofs.Ytbnchdfmkmkhnaa.PTimerNone
open Go.ChangeMaps (open_string shut_string)
set_option linter.unusedVariables false
theorem own : ownKnob Try.prog.godebug = none := by kernel_rfl
theorem laidOut : laidOutB Try.prog = true := by kernel_rfl
set_option maxRecDepth 100000 in
theorem lifted (os : Os) (started : os.Started) (H : Type) (enc : TypeId × Value → H) :
    ReturnsInHanded {} Try.checked os 5 .any (Rows.timerNoneSpec.pre6 enc Try.prog Try.f5 Rows.timerNoneRow.domain false) (Rows.timerNoneSpec.post enc Try.prog Try.f5 false true false false) := by
  refine returnsInHanded_of_change_sized (C := Try.checked) own started (by kernel_rfl) Try.func5
    (ChangeSpec.witness6 (enc := enc) (C := Try.checked) false ⟨#[], #[.string ByteArray.empty, .int .i64 0], []⟩ 8 (by kernel_rfl) (by kernel_rfl) (by kernel_rfl) (by kernel_rfl)) ?_
  intro W base args ds gs before hval0 hW hcnd hsz0 _
  have hsz : (DataW.weightsEach Try.prog (Try.f5.params.toList ++ Rows.timerNoneSpec.plain.varTypes Try.prog) (ds ++ gs)).all (· ≤ reachBytes) = true := hsz0
  have hval : ∀ (j : Nat) t v, Try.f5.params[j]? = some t → args[j]? = some v → Value.okWide Try.prog W .any base t v := hval0
  have hW' := hW
  obtain ⟨p, q, hA0, hV, rfl, hfz, hnd⟩ := hW
  have hA : DataW.TrodAll enc Try.prog W 0 (fun _ => true) true Try.f5.params.toList args.toList ds p := hA0
  rw [Try.params5] at hA hval hsz
  obtain ⟨v0, vs0, d0, ds0, p0, q0, hargs, rfl, rfl, h0, r0⟩ := trodAll_cons hA
  obtain ⟨v1, vs1, d1, ds1, p1, q1, rfl, rfl, rfl, h1, r1⟩ := trodAll_cons r0
  obtain ⟨rfl, rfl, rfl⟩ := trodAll_nil r1
  obtain rfl : args = #[v0, v1] := by cases args; simp_all
  obtain ⟨rfl, rfl⟩ := trodVars_none hV
  have k0_ := h0
  have lt0 : ∀ x ∈ p0, x.block < W.heap.size := by obtain ⟨m, hm⟩ := k0_; exact DataW.trod_lt m _ _ _ hm
  obtain ⟨x0, K0, B0⟩ := Open.Opens.arg BndTimerNone.arg0 hsz 0 rfl rfl h0
  obtain rfl : v0 = .string x0 := by
    obtain ⟨a_, rfl, _⟩ := open_string Try.underlying9 (hval 0 9 v0 rfl rfl) h0
    simpa [Value.cells, Kd.int, Kd.bool, Kd.string, Kd.scalar] using K0
  have k1_ := h1
  have lt1 : ∀ x ∈ p1, x.block < W.heap.size := by obtain ⟨m, hm⟩ := k1_; exact DataW.trod_lt m _ _ _ hm
  obtain ⟨x1, K1, B1⟩ := Open.Opens.arg BndTimerNone.arg1 hsz 1 rfl rfl h1
  obtain rfl : v1 = .int .i64 x1 := by
    obtain ⟨a_, rfl, _⟩ := open_int Try.underlying3 (hval 1 3 v1 rfl rfl) h1
    simpa [Value.cells, Kd.int, Kd.bool, Kd.string, Kd.scalar] using K1
  clear hA0 hval0 hsz0 hsz
  have hf := Pure.TimerNone x0 x1 B0 B1
  refine (PTimerNone.interregnumlaw17_TimerNone.calls (r := true) (w := W)  (h := hf)).mono fun e W' ⟨he, bel0⟩ => ?_
  subst he
  have bel : Below W.heap.size W W' := by first | exact bel0 | exact bel0.below
  exact ⟨_, rfl, _, _, _, [], _, [], hW', trodAll_mk1 (shut_bool Try.underlying4 _), (trodAll_cons_mk (Below.trod laidOut (by kernel_rfl) (of_decide_eq_true (by kernel_rfl)) k0_ bel lt0) (trodAll_cons_mk (Below.trod laidOut (by kernel_rfl) (of_decide_eq_true (by kernel_rfl)) k1_ bel lt1) trodAll_mk0)), rfl, bel.frame _, fun h => by cases h⟩
theorem over : Rows.timerNoneRow.holds Try.pinned (OpenSpec.ofChange Rows.timerNoneSpec) :=
  OpenClaim.holds_of_wide 5 Try.f5 rfl rfl rfl rfl rfl rfl rfl ⟨rfl, rfl, rfl, rfl, rfl⟩ rfl rfl rfl rfl rfl (by kernel_rfl) Try.func5 (by kernel_rfl)
    (of_decide_eq_true (by kernel_rfl)) (by unfold Func.isWrapper; first | (rw [if_pos (by decide +kernel)]; kernel_rfl) | (rw [if_neg (by decide +kernel)]; exact ⟨rfl, rfl⟩))
    (fun os started H enc _ => lifted os started H enc)
theorem proved : Rows.TimerNoneSaid := over
#print axioms proved
end Go.Proofs.Ytbnchdfmkmkhnaa.timerNone
namespace Go.Proofs.Ytbnchdfmkmkhnaa
/-- The row, under a short name, for the claim. -/
theorem timerNone_holds : Rows.TimerNoneSaid := timerNone.proved
end Go.Proofs.Ytbnchdfmkmkhnaa
