-- Lean text by a program of this repo (wip/tools/printx.py), out of Lean's own print of the translation
import Derived.Test.YtjdebhkdbdbepaaRows
import Derived.Test.YtjdebhkdbdbepaaPExportTellsx14
import Derived.Test.YtjdebhkdbdbepaaBndExportTells
import Derived.Test.YtjdebhkdbdbepaaPureExportTells
import Derived.WalkKit
import Derived.ProofKit
import Derived.OpenShut
import Derived.ShutString
import Derived.ChangeOld
import Derived.Below
import Derived.SizedLaws
namespace Go.Proofs.Ytjdebhkdbdbepaa.exportTells
open Go.ChangeShapes Go.WideShapes Go.ChangeAt Go.RowKit Go.Proofs.YtjdebhkdbdbepaaW.PrintWords Go.Proofs.Ytjdebhkdbdbepaa.PExportTells
open Go.ChangeMaps (open_string shut_string)
set_option linter.unusedVariables false
theorem own : ownKnob Try.prog.godebug = none := by kernel_rfl
theorem laidOut : laidOutB Try.prog = true := by kernel_rfl
set_option maxRecDepth 100000 in
theorem lifted (os : Os) (started : os.Started) (H : Type) (enc : TypeId × Value → H) :
    ReturnsInHanded {} Try.checked os 3 .any (Rows.exportTellsSpec.pre6 enc Try.prog Try.f3 Rows.exportTellsRow.domain false) (Rows.exportTellsSpec.post enc Try.prog Try.f3 false true false false) := by
  refine returnsInHanded_of_change_sized (C := Try.checked) own started (by kernel_rfl) Try.func3
    (ChangeSpec.witness6 (enc := enc) (C := Try.checked) false ⟨#[], #[.agg #[.int .i64 0, .int .u32 0, .int .u32 0, .int .i64 0, .int .i64 0, .int .i64 0, .int .i64 0, .int .i64 0], .agg #[.int .i64 0, .int .i64 0, .slice none 0 0, .slice none 0 0], .bool false, .agg #[.int .u32 0, .int .i64 0, .int .i64 0, .int .i64 0, .slice none 0 0, .int .u32 0, .int .i64 0, .int .i64 0, .slice none 0 0, .slice none 0 0, .int .i64 0], .int .i64 0], []⟩ 8 (by kernel_rfl) (by kernel_rfl) (by kernel_rfl) (by kernel_rfl)) ?_
  intro W base args ds gs before hval0 hW hcnd hsz0 _
  have hsz : (DataW.weightsEach Try.prog (Try.f3.params.toList ++ Rows.exportTellsSpec.plain.varTypes Try.prog) (ds ++ gs)).all (· ≤ reachBytes) = true := hsz0
  have hval : ∀ (j : Nat) t v, Try.f3.params[j]? = some t → args[j]? = some v → Value.okWide Try.prog W .any base t v := hval0
  have hW' := hW
  obtain ⟨p, q, hA0, hV, rfl, hfz, hnd⟩ := hW
  have hA : DataW.TrodAll enc Try.prog W 0 (fun _ => true) true Try.f3.params.toList args.toList ds p := hA0
  rw [Try.params3] at hA hval hsz
  obtain ⟨v0, vs0, d0, ds0, p0, q0, hargs, rfl, rfl, h0, r0⟩ := trodAll_cons hA
  obtain ⟨v1, vs1, d1, ds1, p1, q1, rfl, rfl, rfl, h1, r1⟩ := trodAll_cons r0
  obtain ⟨v2, vs2, d2, ds2, p2, q2, rfl, rfl, rfl, h2, r2⟩ := trodAll_cons r1
  obtain ⟨v3, vs3, d3, ds3, p3, q3, rfl, rfl, rfl, h3, r3⟩ := trodAll_cons r2
  obtain ⟨v4, vs4, d4, ds4, p4, q4, rfl, rfl, rfl, h4, r4⟩ := trodAll_cons r3
  obtain ⟨rfl, rfl, rfl⟩ := trodAll_nil r4
  obtain rfl : args = #[v0, v1, v2, v3, v4] := by cases args; simp_all
  obtain ⟨rfl, rfl⟩ := trodVars_none hV
  have k0_ := h0
  have lt0 : ∀ x ∈ p0, x.block < W.heap.size := by obtain ⟨m, hm⟩ := k0_; exact DataW.trod_lt m _ _ _ hm
  obtain ⟨x0, K0, B0⟩ := Open.Opens.arg BndExportTells.arg0 hsz 0 rfl rfl h0
  obtain ⟨cs0, rfl, _⟩ := okWide_struct Try.underlying24 (hval 0 24 v0 rfl rfl)
  have e0 := k24_open K0
  obtain rfl : cs0 = #[.int .i64 x0.f0, .int .u32 x0.f1, .int .u32 x0.f2, .int .i64 x0.f3, .int .i64 x0.f4, .int .i64 x0.f5, .int .i64 x0.f6, .int .i64 x0.f7] := by
    have e' : cs0.toList = [.int .i64 x0.f0, .int .u32 x0.f1, .int .u32 x0.f2, .int .i64 x0.f3, .int .i64 x0.f4, .int .i64 x0.f5, .int .i64 x0.f6, .int .i64 x0.f7] := e0
    rw [← Array.toArray_toList (xs := cs0), e']
  have k1_ := h1
  have lt1 : ∀ x ∈ p1, x.block < W.heap.size := by obtain ⟨m, hm⟩ := k1_; exact DataW.trod_lt m _ _ _ hm
  obtain ⟨x1, K1, B1⟩ := Open.Opens.arg BndExportTells.arg1 hsz 1 rfl rfl h1
  obtain ⟨cs1, rfl, _⟩ := okWide_struct Try.underlying27 (hval 1 27 v1 rfl rfl)
  obtain ⟨A1_2, c1_2, A1_3, c1_3, e1, hc1_2, hr1_2, hc1_3, hr1_3⟩ := k27_open K1
  obtain rfl : cs1 = #[.int .i64 x1.f0, .int .i64 x1.f1, .slice A1_2 x1.f2.length c1_2, .slice A1_3 x1.f3.length c1_3] := by
    have e' : cs1.toList = [.int .i64 x1.f0, .int .i64 x1.f1, .slice A1_2 x1.f2.length c1_2, .slice A1_3 x1.f3.length c1_3] := e1
    rw [← Array.toArray_toList (xs := cs1), e']
  have k2_ := h2
  have lt2 : ∀ x ∈ p2, x.block < W.heap.size := by obtain ⟨m, hm⟩ := k2_; exact DataW.trod_lt m _ _ _ hm
  obtain ⟨x2, K2, B2⟩ := Open.Opens.arg BndExportTells.arg2 hsz 2 rfl rfl h2
  obtain rfl : v2 = .bool x2 := by
    obtain ⟨a_, rfl, _⟩ := open_bool Try.underlying4 (hval 2 4 v2 rfl rfl) h2
    simpa [Value.cells, Kd.int, Kd.bool, Kd.string, Kd.scalar] using K2
  have k3_ := h3
  have lt3 : ∀ x ∈ p3, x.block < W.heap.size := by obtain ⟨m, hm⟩ := k3_; exact DataW.trod_lt m _ _ _ hm
  obtain ⟨x3, K3, B3⟩ := Open.Opens.arg BndExportTells.arg3 hsz 3 rfl rfl h3
  obtain ⟨cs3, rfl, _⟩ := okWide_struct Try.underlying36 (hval 3 36 v3 rfl rfl)
  obtain ⟨A3_4, c3_4, A3_8, c3_8, A3_9, c3_9, e3, hc3_4, hr3_4, hc3_8, hr3_8, hc3_9, hr3_9⟩ := k36_open K3
  obtain rfl : cs3 = #[.int .u32 x3.f0.f0, .int .i64 x3.f0.f1, .int .i64 x3.f1, .int .i64 x3.f2.f0, .slice A3_4 x3.f2.f1.length c3_4, .int .u32 x3.f2.f2, .int .i64 x3.f2.f3, .int .i64 x3.f2.f4, .slice A3_8 x3.f2.f5.length c3_8, .slice A3_9 x3.f2.f6.length c3_9, .int .i64 x3.f3] := by
    have e' : cs3.toList = [.int .u32 x3.f0.f0, .int .i64 x3.f0.f1, .int .i64 x3.f1, .int .i64 x3.f2.f0, .slice A3_4 x3.f2.f1.length c3_4, .int .u32 x3.f2.f2, .int .i64 x3.f2.f3, .int .i64 x3.f2.f4, .slice A3_8 x3.f2.f5.length c3_8, .slice A3_9 x3.f2.f6.length c3_9, .int .i64 x3.f3] := e3
    rw [← Array.toArray_toList (xs := cs3), e']
  have k4_ := h4
  have lt4 : ∀ x ∈ p4, x.block < W.heap.size := by obtain ⟨m, hm⟩ := k4_; exact DataW.trod_lt m _ _ _ hm
  obtain ⟨x4, K4, B4⟩ := Open.Opens.arg BndExportTells.arg4 hsz 4 rfl rfl h4
  obtain rfl : v4 = .int .i64 x4 := by
    obtain ⟨a_, rfl, _⟩ := open_int Try.underlying3 (hval 4 3 v4 rfl rfl) h4
    simpa [Value.cells, Kd.int, Kd.bool, Kd.string, Kd.scalar] using K4
  clear hA0 hval0 hsz0 hsz
  obtain ⟨k_, hf⟩ := Pure.ExportTells x0 x1 x2 x3 x4 B0 B1 B3 B4
  refine (PExportTells.interregnumlaw16_ExportTells.calls (k := k_) (r := true) (w := W) (hr1_2 := hr1_2) (hc1_2 := hc1_2) (hr1_3 := hr1_3) (hc1_3 := hc1_3) (hr3_4 := hr3_4) (hc3_4 := hc3_4) (hr3_8 := hr3_8) (hc3_8 := hc3_8) (hr3_9 := hr3_9) (hc3_9 := hc3_9) (h := hf)).mono fun e W' ⟨he, bel0⟩ => ?_
  subst he
  have bel : Below W.heap.size W W' := by first | exact bel0 | exact bel0.below
  exact ⟨_, rfl, _, _, _, [], _, [], hW', trodAll_mk1 (shut_bool Try.underlying4 _), (trodAll_cons_mk (Below.trod laidOut (by kernel_rfl) (of_decide_eq_true (by kernel_rfl)) k0_ bel lt0) (trodAll_cons_mk (Below.trod laidOut (by kernel_rfl) (of_decide_eq_true (by kernel_rfl)) k1_ bel lt1) (trodAll_cons_mk (Below.trod laidOut (by kernel_rfl) (of_decide_eq_true (by kernel_rfl)) k2_ bel lt2) (trodAll_cons_mk (Below.trod laidOut (by kernel_rfl) (of_decide_eq_true (by kernel_rfl)) k3_ bel lt3) (trodAll_cons_mk (Below.trod laidOut (by kernel_rfl) (of_decide_eq_true (by kernel_rfl)) k4_ bel lt4) trodAll_mk0))))), rfl, bel.frame _, fun h => by cases h⟩
theorem over : Rows.exportTellsRow.holds Try.pinned (OpenSpec.ofChange Rows.exportTellsSpec) :=
  OpenClaim.holds_of_wide 3 Try.f3 rfl rfl rfl rfl rfl rfl rfl ⟨rfl, rfl, rfl, rfl, rfl⟩ rfl rfl rfl rfl rfl (by kernel_rfl) Try.func3 (by kernel_rfl)
    (of_decide_eq_true (by kernel_rfl)) (by unfold Func.isWrapper; first | (rw [if_pos (by decide +kernel)]; kernel_rfl) | (rw [if_neg (by decide +kernel)]; exact ⟨rfl, rfl⟩))
    (fun os started H enc _ => lifted os started H enc)
theorem proved : Rows.ExportTellsSaid := over
#print axioms proved
end Go.Proofs.Ytjdebhkdbdbepaa.exportTells
namespace Go.Proofs.Ytjdebhkdbdbepaa
/-- The row, under a short name, for the claim. -/
theorem exportTells_holds : Rows.ExportTellsSaid := exportTells.proved
end Go.Proofs.Ytjdebhkdbdbepaa
