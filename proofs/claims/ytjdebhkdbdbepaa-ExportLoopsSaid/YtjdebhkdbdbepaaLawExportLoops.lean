-- Lean text by a program of this repo (wip/tools/printx.py), out of Lean's own print of the translation
import Derived.Test.YtjdebhkdbdbepaaRows
import Derived.Test.YtjdebhkdbdbepaaPExportLoopsx9
import Derived.Test.YtjdebhkdbdbepaaBndExportLoops
import Derived.Test.YtjdebhkdbdbepaaPureExportLoops
import Derived.WalkKit
import Derived.ProofKit
import Derived.OpenShut
import Derived.ShutString
import Derived.ChangeOld
import Derived.Below
import Derived.SizedLaws
namespace Go.Proofs.Ytjdebhkdbdbepaa.exportLoops
open Go.ChangeShapes Go.WideShapes Go.ChangeAt Go.RowKit Go.Proofs.YtjdebhkdbdbepaaW.PrintWords Go.Proofs.Ytjdebhkdbdbepaa.PExportLoops
open Go.ChangeMaps (open_string shut_string)
set_option linter.unusedVariables false
theorem own : ownKnob Try.prog.godebug = none := by kernel_rfl
theorem laidOut : laidOutB Try.prog = true := by kernel_rfl
set_option maxRecDepth 100000 in
theorem lifted (os : Os) (started : os.Started) (H : Type) (enc : TypeId × Value → H) :
    ReturnsInHanded {} Try.checked os 4 .any (Rows.exportLoopsSpec.pre6 enc Try.prog Try.f4 Rows.exportLoopsRow.domain false) (Rows.exportLoopsSpec.post enc Try.prog Try.f4 false true false false) := by
  refine returnsInHanded_of_change_sized (C := Try.checked) own started (by kernel_rfl) Try.func4
    (ChangeSpec.witness6 (enc := enc) (C := Try.checked) false ⟨#[], #[.agg #[.int .i64 0, .int .u32 0, .int .u32 0, .int .i64 0, .int .i64 0, .int .i64 0, .int .i64 0, .int .i64 0], .agg #[.int .i64 0, .int .i64 0, .slice none 0 0, .slice none 0 0], .agg #[.int .u32 0, .int .i64 0, .int .i64 0, .int .i64 0, .slice none 0 0, .int .u32 0, .int .i64 0, .int .i64 0, .slice none 0 0, .slice none 0 0, .int .i64 0], .int .i64 0], []⟩ 8 (by kernel_rfl) (by kernel_rfl) (by kernel_rfl) (by kernel_rfl)) ?_
  intro W base args ds gs before hval0 hW hcnd hsz0 _
  have hsz : (DataW.weightsEach Try.prog (Try.f4.params.toList ++ Rows.exportLoopsSpec.plain.varTypes Try.prog) (ds ++ gs)).all (· ≤ reachBytes) = true := hsz0
  have hval : ∀ (j : Nat) t v, Try.f4.params[j]? = some t → args[j]? = some v → Value.okWide Try.prog W .any base t v := hval0
  have hW' := hW
  obtain ⟨p, q, hA0, hV, rfl, hfz, hnd⟩ := hW
  have hA : DataW.TrodAll enc Try.prog W 0 (fun _ => true) true Try.f4.params.toList args.toList ds p := hA0
  rw [Try.params4] at hA hval hsz
  obtain ⟨v0, vs0, d0, ds0, p0, q0, hargs, rfl, rfl, h0, r0⟩ := trodAll_cons hA
  obtain ⟨v1, vs1, d1, ds1, p1, q1, rfl, rfl, rfl, h1, r1⟩ := trodAll_cons r0
  obtain ⟨v2, vs2, d2, ds2, p2, q2, rfl, rfl, rfl, h2, r2⟩ := trodAll_cons r1
  obtain ⟨v3, vs3, d3, ds3, p3, q3, rfl, rfl, rfl, h3, r3⟩ := trodAll_cons r2
  obtain ⟨rfl, rfl, rfl⟩ := trodAll_nil r3
  obtain rfl : args = #[v0, v1, v2, v3] := by cases args; simp_all
  obtain ⟨rfl, rfl⟩ := trodVars_none hV
  have k0_ := h0
  have lt0 : ∀ x ∈ p0, x.block < W.heap.size := by obtain ⟨m, hm⟩ := k0_; exact DataW.trod_lt m _ _ _ hm
  obtain ⟨x0, K0, B0⟩ := Open.Opens.arg BndExportLoops.arg0 hsz 0 rfl rfl h0
  obtain ⟨cs0, rfl, _⟩ := okWide_struct Try.underlying24 (hval 0 24 v0 rfl rfl)
  have e0 := k24_open K0
  obtain rfl : cs0 = #[.int .i64 x0.f0, .int .u32 x0.f1, .int .u32 x0.f2, .int .i64 x0.f3, .int .i64 x0.f4, .int .i64 x0.f5, .int .i64 x0.f6, .int .i64 x0.f7] := by
    have e' : cs0.toList = [.int .i64 x0.f0, .int .u32 x0.f1, .int .u32 x0.f2, .int .i64 x0.f3, .int .i64 x0.f4, .int .i64 x0.f5, .int .i64 x0.f6, .int .i64 x0.f7] := e0
    rw [← Array.toArray_toList (xs := cs0), e']
  have k1_ := h1
  have lt1 : ∀ x ∈ p1, x.block < W.heap.size := by obtain ⟨m, hm⟩ := k1_; exact DataW.trod_lt m _ _ _ hm
  obtain ⟨x1, K1, B1⟩ := Open.Opens.arg BndExportLoops.arg1 hsz 1 rfl rfl h1
  obtain ⟨cs1, rfl, _⟩ := okWide_struct Try.underlying27 (hval 1 27 v1 rfl rfl)
  obtain ⟨A1_2, c1_2, A1_3, c1_3, e1, hc1_2, hr1_2, hc1_3, hr1_3⟩ := k27_open K1
  obtain rfl : cs1 = #[.int .i64 x1.f0, .int .i64 x1.f1, .slice A1_2 x1.f2.length c1_2, .slice A1_3 x1.f3.length c1_3] := by
    have e' : cs1.toList = [.int .i64 x1.f0, .int .i64 x1.f1, .slice A1_2 x1.f2.length c1_2, .slice A1_3 x1.f3.length c1_3] := e1
    rw [← Array.toArray_toList (xs := cs1), e']
  have k2_ := h2
  have lt2 : ∀ x ∈ p2, x.block < W.heap.size := by obtain ⟨m, hm⟩ := k2_; exact DataW.trod_lt m _ _ _ hm
  obtain ⟨x2, K2, B2⟩ := Open.Opens.arg BndExportLoops.arg2 hsz 2 rfl rfl h2
  obtain ⟨cs2, rfl, _⟩ := okWide_struct Try.underlying36 (hval 2 36 v2 rfl rfl)
  obtain ⟨A2_4, c2_4, A2_8, c2_8, A2_9, c2_9, e2, hc2_4, hr2_4, hc2_8, hr2_8, hc2_9, hr2_9⟩ := k36_open K2
  obtain rfl : cs2 = #[.int .u32 x2.f0.f0, .int .i64 x2.f0.f1, .int .i64 x2.f1, .int .i64 x2.f2.f0, .slice A2_4 x2.f2.f1.length c2_4, .int .u32 x2.f2.f2, .int .i64 x2.f2.f3, .int .i64 x2.f2.f4, .slice A2_8 x2.f2.f5.length c2_8, .slice A2_9 x2.f2.f6.length c2_9, .int .i64 x2.f3] := by
    have e' : cs2.toList = [.int .u32 x2.f0.f0, .int .i64 x2.f0.f1, .int .i64 x2.f1, .int .i64 x2.f2.f0, .slice A2_4 x2.f2.f1.length c2_4, .int .u32 x2.f2.f2, .int .i64 x2.f2.f3, .int .i64 x2.f2.f4, .slice A2_8 x2.f2.f5.length c2_8, .slice A2_9 x2.f2.f6.length c2_9, .int .i64 x2.f3] := e2
    rw [← Array.toArray_toList (xs := cs2), e']
  have k3_ := h3
  have lt3 : ∀ x ∈ p3, x.block < W.heap.size := by obtain ⟨m, hm⟩ := k3_; exact DataW.trod_lt m _ _ _ hm
  obtain ⟨x3, K3, B3⟩ := Open.Opens.arg BndExportLoops.arg3 hsz 3 rfl rfl h3
  obtain rfl : v3 = .int .i64 x3 := by
    obtain ⟨a_, rfl, _⟩ := open_int Try.underlying3 (hval 3 3 v3 rfl rfl) h3
    simpa [Value.cells, Kd.int, Kd.bool, Kd.string, Kd.scalar] using K3
  clear hA0 hval0 hsz0 hsz
  obtain ⟨k_, hf⟩ := Pure.ExportLoops x0 x1 x2 x3 B0 B1 B2 B3
  refine (PExportLoops.interregnumlaw16_ExportLoops.calls (k := k_) (r := true) (w := W) (hr1_2 := hr1_2) (hc1_2 := hc1_2) (hr1_3 := hr1_3) (hc1_3 := hc1_3) (hr2_4 := hr2_4) (hc2_4 := hc2_4) (hr2_8 := hr2_8) (hc2_8 := hc2_8) (hr2_9 := hr2_9) (hc2_9 := hc2_9) (h := hf)).mono fun e W' ⟨he, bel0⟩ => ?_
  subst he
  have bel : Below W.heap.size W W' := by first | exact bel0 | exact bel0.below
  exact ⟨_, rfl, _, _, _, [], _, [], hW', trodAll_mk1 (shut_bool Try.underlying4 _), (trodAll_cons_mk (Below.trod laidOut (by kernel_rfl) (of_decide_eq_true (by kernel_rfl)) k0_ bel lt0) (trodAll_cons_mk (Below.trod laidOut (by kernel_rfl) (of_decide_eq_true (by kernel_rfl)) k1_ bel lt1) (trodAll_cons_mk (Below.trod laidOut (by kernel_rfl) (of_decide_eq_true (by kernel_rfl)) k2_ bel lt2) (trodAll_cons_mk (Below.trod laidOut (by kernel_rfl) (of_decide_eq_true (by kernel_rfl)) k3_ bel lt3) trodAll_mk0)))), rfl, bel.frame _, fun h => by cases h⟩
theorem over : Rows.exportLoopsRow.holds Try.pinned (OpenSpec.ofChange Rows.exportLoopsSpec) :=
  OpenClaim.holds_of_wide 4 Try.f4 rfl rfl rfl rfl rfl rfl rfl ⟨rfl, rfl, rfl, rfl, rfl⟩ rfl rfl rfl rfl rfl (by kernel_rfl) Try.func4 (by kernel_rfl)
    (of_decide_eq_true (by kernel_rfl)) (by unfold Func.isWrapper; first | (rw [if_pos (by decide +kernel)]; kernel_rfl) | (rw [if_neg (by decide +kernel)]; exact ⟨rfl, rfl⟩))
    (fun os started H enc _ => lifted os started H enc)
theorem proved : Rows.ExportLoopsSaid := over
#print axioms proved
end Go.Proofs.Ytjdebhkdbdbepaa.exportLoops
namespace Go.Proofs.Ytjdebhkdbdbepaa
/-- The row, under a short name, for the claim. -/
theorem exportLoops_holds : Rows.ExportLoopsSaid := exportLoops.proved
end Go.Proofs.Ytjdebhkdbdbepaa
