-- Lean text by a program of this repo (wip/tools/printx.py), out of Lean's own print of the translation
import Derived.Test.YtpkckkmgnlhhcaaRows
import Derived.Test.YtpkckkmgnlhhcaaPRouteSamex8
import Derived.Test.YtpkckkmgnlhhcaaBndRouteSame
import Derived.Test.YtpkckkmgnlhhcaaPureRouteSame
import Derived.WalkKit
import Derived.ProofKit
import Derived.OpenShut
import Derived.ShutString
import Derived.ChangeOld
import Derived.Below
import Derived.SizedLaws
namespace Go.Proofs.Ytpkckkmgnlhhcaa.routeSame
open Go.ChangeShapes Go.WideShapes Go.ChangeAt Go.RowKit Go.Proofs.YtpkckkmgnlhhcaaW.PrintWords Go.Proofs.Ytpkckkmgnlhhcaa.PRouteSame
open Go.ChangeMaps (open_string shut_string)
set_option linter.unusedVariables false
theorem own : ownKnob Try.prog.godebug = none := by kernel_rfl
theorem laidOut : laidOutB Try.prog = true := by kernel_rfl
set_option maxRecDepth 100000 in
theorem lifted (os : Os) (started : os.Started) (H : Type) (enc : TypeId × Value → H) :
    ReturnsInHanded {} Try.checked os 8 .any (Rows.routeSameSpec.pre6 enc Try.prog Try.f8 Rows.routeSameRow.domain false) (Rows.routeSameSpec.post enc Try.prog Try.f8 false true false false) := by
  refine returnsInHanded_of_change_sized (C := Try.checked) own started (by kernel_rfl) Try.func8
    (ChangeSpec.witness6 (enc := enc) (C := Try.checked) false ⟨#[], #[.agg #[.int .u32 0, .int .i64 0, .int .i64 0, .int .i64 0, .slice none 0 0, .int .u32 0, .int .i64 0, .int .i64 0, .slice none 0 0, .slice none 0 0, .int .i64 0], .agg #[.int .u32 0, .int .i64 0, .int .i64 0, .int .i64 0, .slice none 0 0, .int .u32 0, .int .i64 0, .int .i64 0, .slice none 0 0, .slice none 0 0, .int .i64 0], .int .i64 0, .int .u32 0], []⟩ 8 (by kernel_rfl) (by kernel_rfl) (by kernel_rfl) (by kernel_rfl)) ?_
  intro W base args ds gs before hval0 hW hcnd hsz0 _
  have hsz : (DataW.weightsEach Try.prog (Try.f8.params.toList ++ Rows.routeSameSpec.plain.varTypes Try.prog) (ds ++ gs)).all (· ≤ reachBytes) = true := hsz0
  have hval : ∀ (j : Nat) t v, Try.f8.params[j]? = some t → args[j]? = some v → Value.okWide Try.prog W .any base t v := hval0
  have hW' := hW
  obtain ⟨p, q, hA0, hV, rfl, hfz, hnd⟩ := hW
  have hA : DataW.TrodAll enc Try.prog W 0 (fun _ => true) true Try.f8.params.toList args.toList ds p := hA0
  rw [Try.params8] at hA hval hsz
  obtain ⟨v0, vs0, d0, ds0, p0, q0, hargs, rfl, rfl, h0, r0⟩ := trodAll_cons hA
  obtain ⟨v1, vs1, d1, ds1, p1, q1, rfl, rfl, rfl, h1, r1⟩ := trodAll_cons r0
  obtain ⟨v2, vs2, d2, ds2, p2, q2, rfl, rfl, rfl, h2, r2⟩ := trodAll_cons r1
  obtain ⟨v3, vs3, d3, ds3, p3, q3, rfl, rfl, rfl, h3, r3⟩ := trodAll_cons r2
  obtain ⟨rfl, rfl, rfl⟩ := trodAll_nil r3
  obtain rfl : args = #[v0, v1, v2, v3] := by cases args; simp_all
  obtain ⟨rfl, rfl⟩ := trodVars_none hV
  have k0_ := h0
  have lt0 : ∀ x ∈ p0, x.block < W.heap.size := by obtain ⟨m, hm⟩ := k0_; exact DataW.trod_lt m _ _ _ hm
  obtain ⟨x0, K0, B0⟩ := Open.Opens.arg BndRouteSame.arg0 hsz 0 rfl rfl h0
  obtain ⟨cs0, rfl, _⟩ := okWide_struct Try.underlying48 (hval 0 48 v0 rfl rfl)
  obtain ⟨A0_4, c0_4, A0_8, c0_8, A0_9, c0_9, e0, hc0_4, hr0_4, hc0_8, hr0_8, hc0_9, hr0_9⟩ := k48_open K0
  obtain rfl : cs0 = #[.int .u32 x0.f0.f0, .int .i64 x0.f0.f1, .int .i64 x0.f1, .int .i64 x0.f2.f0, .slice A0_4 x0.f2.f1.length c0_4, .int .u32 x0.f2.f2, .int .i64 x0.f2.f3, .int .i64 x0.f2.f4, .slice A0_8 x0.f2.f5.length c0_8, .slice A0_9 x0.f2.f6.length c0_9, .int .i64 x0.f3] := by
    have e' : cs0.toList = [.int .u32 x0.f0.f0, .int .i64 x0.f0.f1, .int .i64 x0.f1, .int .i64 x0.f2.f0, .slice A0_4 x0.f2.f1.length c0_4, .int .u32 x0.f2.f2, .int .i64 x0.f2.f3, .int .i64 x0.f2.f4, .slice A0_8 x0.f2.f5.length c0_8, .slice A0_9 x0.f2.f6.length c0_9, .int .i64 x0.f3] := e0
    rw [← Array.toArray_toList (xs := cs0), e']
  have k1_ := h1
  have lt1 : ∀ x ∈ p1, x.block < W.heap.size := by obtain ⟨m, hm⟩ := k1_; exact DataW.trod_lt m _ _ _ hm
  obtain ⟨x1, K1, B1⟩ := Open.Opens.arg BndRouteSame.arg1 hsz 1 rfl rfl h1
  obtain ⟨cs1, rfl, _⟩ := okWide_struct Try.underlying48 (hval 1 48 v1 rfl rfl)
  obtain ⟨A1_4, c1_4, A1_8, c1_8, A1_9, c1_9, e1, hc1_4, hr1_4, hc1_8, hr1_8, hc1_9, hr1_9⟩ := k48_open K1
  obtain rfl : cs1 = #[.int .u32 x1.f0.f0, .int .i64 x1.f0.f1, .int .i64 x1.f1, .int .i64 x1.f2.f0, .slice A1_4 x1.f2.f1.length c1_4, .int .u32 x1.f2.f2, .int .i64 x1.f2.f3, .int .i64 x1.f2.f4, .slice A1_8 x1.f2.f5.length c1_8, .slice A1_9 x1.f2.f6.length c1_9, .int .i64 x1.f3] := by
    have e' : cs1.toList = [.int .u32 x1.f0.f0, .int .i64 x1.f0.f1, .int .i64 x1.f1, .int .i64 x1.f2.f0, .slice A1_4 x1.f2.f1.length c1_4, .int .u32 x1.f2.f2, .int .i64 x1.f2.f3, .int .i64 x1.f2.f4, .slice A1_8 x1.f2.f5.length c1_8, .slice A1_9 x1.f2.f6.length c1_9, .int .i64 x1.f3] := e1
    rw [← Array.toArray_toList (xs := cs1), e']
  have k2_ := h2
  have lt2 : ∀ x ∈ p2, x.block < W.heap.size := by obtain ⟨m, hm⟩ := k2_; exact DataW.trod_lt m _ _ _ hm
  obtain ⟨x2, K2, B2⟩ := Open.Opens.arg BndRouteSame.arg2 hsz 2 rfl rfl h2
  obtain rfl : v2 = .int .i64 x2 := by
    obtain ⟨a_, rfl, _⟩ := open_int Try.underlying3 (hval 2 3 v2 rfl rfl) h2
    simpa [Value.cells, Kd.int, Kd.bool, Kd.string, Kd.scalar] using K2
  have k3_ := h3
  have lt3 : ∀ x ∈ p3, x.block < W.heap.size := by obtain ⟨m, hm⟩ := k3_; exact DataW.trod_lt m _ _ _ hm
  obtain ⟨x3, K3, B3⟩ := Open.Opens.arg BndRouteSame.arg3 hsz 3 rfl rfl h3
  obtain rfl : v3 = .int .u32 x3 := by
    obtain ⟨a_, rfl, _⟩ := open_int Try.underlying40 (hval 3 40 v3 rfl rfl) h3
    simpa [Value.cells, Kd.int, Kd.bool, Kd.string, Kd.scalar] using K3
  clear hA0 hval0 hsz0 hsz
  obtain ⟨k_, hf⟩ := Pure.RouteSame x0 x1 x2 x3 B0 B1 B2 B3
  refine (PRouteSame.interregnumlaw13_RouteSame.calls (k := k_) (r := true) (w := W) (hr0_4 := hr0_4) (hc0_4 := hc0_4) (hr0_8 := hr0_8) (hc0_8 := hc0_8) (hr0_9 := hr0_9) (hc0_9 := hc0_9) (hr1_4 := hr1_4) (hc1_4 := hc1_4) (hr1_8 := hr1_8) (hc1_8 := hc1_8) (hr1_9 := hr1_9) (hc1_9 := hc1_9) (h := hf)).mono fun e W' ⟨he, bel0⟩ => ?_
  subst he
  have bel : Below W.heap.size W W' := by first | exact bel0 | exact bel0.below
  exact ⟨_, rfl, _, _, _, [], _, [], hW', trodAll_mk1 (shut_bool Try.underlying4 _), (trodAll_cons_mk (Below.trod laidOut (by kernel_rfl) (of_decide_eq_true (by kernel_rfl)) k0_ bel lt0) (trodAll_cons_mk (Below.trod laidOut (by kernel_rfl) (of_decide_eq_true (by kernel_rfl)) k1_ bel lt1) (trodAll_cons_mk (Below.trod laidOut (by kernel_rfl) (of_decide_eq_true (by kernel_rfl)) k2_ bel lt2) (trodAll_cons_mk (Below.trod laidOut (by kernel_rfl) (of_decide_eq_true (by kernel_rfl)) k3_ bel lt3) trodAll_mk0)))), rfl, bel.frame _, fun h => by cases h⟩
theorem over : Rows.routeSameRow.holds Try.pinned (OpenSpec.ofChange Rows.routeSameSpec) :=
  OpenClaim.holds_of_wide 8 Try.f8 rfl rfl rfl rfl rfl rfl rfl ⟨rfl, rfl, rfl, rfl, rfl⟩ rfl rfl rfl rfl rfl (by kernel_rfl) Try.func8 (by kernel_rfl)
    (of_decide_eq_true (by kernel_rfl)) (by unfold Func.isWrapper; first | (rw [if_pos (by decide +kernel)]; kernel_rfl) | (rw [if_neg (by decide +kernel)]; exact ⟨rfl, rfl⟩))
    (fun os started H enc _ => lifted os started H enc)
theorem proved : Rows.RouteSameSaid := over
#print axioms proved
end Go.Proofs.Ytpkckkmgnlhhcaa.routeSame
namespace Go.Proofs.Ytpkckkmgnlhhcaa
/-- The row, under a short name, for the claim. -/
theorem routeSame_holds : Rows.RouteSameSaid := routeSame.proved
end Go.Proofs.Ytpkckkmgnlhhcaa
