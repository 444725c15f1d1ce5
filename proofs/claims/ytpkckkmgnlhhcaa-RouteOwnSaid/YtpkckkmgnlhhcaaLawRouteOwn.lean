-- Lean text by a program of this repo (wip/tools/printx.py), out of Lean's own print of the translation
import Derived.Test.YtpkckkmgnlhhcaaRows
import Derived.Test.YtpkckkmgnlhhcaaPRouteOwnx8
import Derived.Test.YtpkckkmgnlhhcaaBndRouteOwn
import Derived.Test.YtpkckkmgnlhhcaaPureRouteOwn
import Derived.WalkKit
import Derived.ProofKit
import Derived.OpenShut
import Derived.ShutString
import Derived.ChangeOld
import Derived.Below
import Derived.SizedLaws
namespace Go.Proofs.Ytpkckkmgnlhhcaa.routeOwn
open Go.ChangeShapes Go.WideShapes Go.ChangeAt Go.RowKit Go.Proofs.YtpkckkmgnlhhcaaW.PrintWords Go.Proofs.Ytpkckkmgnlhhcaa.PRouteOwn
open Go.ChangeMaps (open_string shut_string)
set_option linter.unusedVariables false
theorem own : ownKnob Try.prog.godebug = none := by kernel_rfl
theorem laidOut : laidOutB Try.prog = true := by kernel_rfl
set_option maxRecDepth 100000 in
theorem lifted (os : Os) (started : os.Started) (H : Type) (enc : TypeId × Value → H) :
    ReturnsInHanded {} Try.checked os 9 .any (Rows.routeOwnSpec.pre6 enc Try.prog Try.f9 Rows.routeOwnRow.domain false) (Rows.routeOwnSpec.post enc Try.prog Try.f9 false true false false) := by
  refine returnsInHanded_of_change_sized (C := Try.checked) own started (by kernel_rfl) Try.func9
    (ChangeSpec.witness6 (enc := enc) (C := Try.checked) false ⟨#[], #[.agg #[.int .u32 0, .int .i64 0, .int .i64 0, .int .i64 0, .slice none 0 0, .int .u32 0, .int .i64 0, .int .i64 0, .slice none 0 0, .slice none 0 0, .int .i64 0]], []⟩ 8 (by kernel_rfl) (by kernel_rfl) (by kernel_rfl) (by kernel_rfl)) ?_
  intro W base args ds gs before hval0 hW hcnd hsz0 _
  have hsz : (DataW.weightsEach Try.prog (Try.f9.params.toList ++ Rows.routeOwnSpec.plain.varTypes Try.prog) (ds ++ gs)).all (· ≤ reachBytes) = true := hsz0
  have hval : ∀ (j : Nat) t v, Try.f9.params[j]? = some t → args[j]? = some v → Value.okWide Try.prog W .any base t v := hval0
  have hW' := hW
  obtain ⟨p, q, hA0, hV, rfl, hfz, hnd⟩ := hW
  have hA : DataW.TrodAll enc Try.prog W 0 (fun _ => true) true Try.f9.params.toList args.toList ds p := hA0
  rw [Try.params9] at hA hval hsz
  obtain ⟨v0, vs0, d0, ds0, p0, q0, hargs, rfl, rfl, h0, r0⟩ := trodAll_cons hA
  obtain ⟨rfl, rfl, rfl⟩ := trodAll_nil r0
  obtain rfl : args = #[v0] := by cases args; simp_all
  obtain ⟨rfl, rfl⟩ := trodVars_none hV
  have k0_ := h0
  have lt0 : ∀ x ∈ p0, x.block < W.heap.size := by obtain ⟨m, hm⟩ := k0_; exact DataW.trod_lt m _ _ _ hm
  obtain ⟨x0, K0, B0⟩ := Open.Opens.arg BndRouteOwn.arg0 hsz 0 rfl rfl h0
  obtain ⟨cs0, rfl, _⟩ := okWide_struct Try.underlying48 (hval 0 48 v0 rfl rfl)
  obtain ⟨A0_4, c0_4, A0_8, c0_8, A0_9, c0_9, e0, hc0_4, hr0_4, hc0_8, hr0_8, hc0_9, hr0_9⟩ := k48_open K0
  obtain rfl : cs0 = #[.int .u32 x0.f0.f0, .int .i64 x0.f0.f1, .int .i64 x0.f1, .int .i64 x0.f2.f0, .slice A0_4 x0.f2.f1.length c0_4, .int .u32 x0.f2.f2, .int .i64 x0.f2.f3, .int .i64 x0.f2.f4, .slice A0_8 x0.f2.f5.length c0_8, .slice A0_9 x0.f2.f6.length c0_9, .int .i64 x0.f3] := by
    have e' : cs0.toList = [.int .u32 x0.f0.f0, .int .i64 x0.f0.f1, .int .i64 x0.f1, .int .i64 x0.f2.f0, .slice A0_4 x0.f2.f1.length c0_4, .int .u32 x0.f2.f2, .int .i64 x0.f2.f3, .int .i64 x0.f2.f4, .slice A0_8 x0.f2.f5.length c0_8, .slice A0_9 x0.f2.f6.length c0_9, .int .i64 x0.f3] := e0
    rw [← Array.toArray_toList (xs := cs0), e']
  clear hA0 hval0 hsz0 hsz
  obtain ⟨k_, hf⟩ := Pure.RouteOwn x0 B0
  refine (PRouteOwn.interregnumlaw13_RouteOwn.calls (k := k_) (r := true) (w := W) (hr0_4 := hr0_4) (hc0_4 := hc0_4) (hr0_8 := hr0_8) (hc0_8 := hc0_8) (hr0_9 := hr0_9) (hc0_9 := hc0_9) (h := hf)).mono fun e W' ⟨he, bel0⟩ => ?_
  subst he
  have bel : Below W.heap.size W W' := by first | exact bel0 | exact bel0.below
  exact ⟨_, rfl, _, _, _, [], _, [], hW', trodAll_mk1 (shut_bool Try.underlying4 _), (trodAll_cons_mk (Below.trod laidOut (by kernel_rfl) (of_decide_eq_true (by kernel_rfl)) k0_ bel lt0) trodAll_mk0), rfl, bel.frame _, fun h => by cases h⟩
theorem over : Rows.routeOwnRow.holds Try.pinned (OpenSpec.ofChange Rows.routeOwnSpec) :=
  OpenClaim.holds_of_wide 9 Try.f9 rfl rfl rfl rfl rfl rfl rfl ⟨rfl, rfl, rfl, rfl, rfl⟩ rfl rfl rfl rfl rfl (by kernel_rfl) Try.func9 (by kernel_rfl)
    (of_decide_eq_true (by kernel_rfl)) (by unfold Func.isWrapper; first | (rw [if_pos (by decide +kernel)]; kernel_rfl) | (rw [if_neg (by decide +kernel)]; exact ⟨rfl, rfl⟩))
    (fun os started H enc _ => lifted os started H enc)
theorem proved : Rows.RouteOwnSaid := over
#print axioms proved
end Go.Proofs.Ytpkckkmgnlhhcaa.routeOwn
namespace Go.Proofs.Ytpkckkmgnlhhcaa
/-- The row, under a short name, for the claim. -/
theorem routeOwn_holds : Rows.RouteOwnSaid := routeOwn.proved
end Go.Proofs.Ytpkckkmgnlhhcaa
