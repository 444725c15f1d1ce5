-- Lean text by a program of this repo (wip/tools/printx.py), out of Lean's own print of the translation
import Derived.Test.YtediicgkcgfghaaPDecideLessx0
import Derived.Test.YtediicgkcgfghaaPDecideLessx2
import Derived.Test.YtediicgkcgfghaaPDecideLessx4
namespace Go.Proofs.Ytediicgkcgfghaa.PDecideLess
open Go.RowKit Go.Proofs.YtediicgkcgfghaaW.PrintWords Go.Proofs.YtediicgkcgfghaaW.PrintLast Go.Proofs.YtediicgkcgfghaaW.PrintMore
attribute [local go_sem] max2_int min2_int max_two min_two max_three min_three max_four min_four   -- for this text's walks alone
set_option linter.unusedVariables false
set_option linter.unusedSimpArgs false

/-! ### interregnumlaw15_answers: function 9 -/
def interregnumlaw15_answers.f  : Option (Bool) := (decide_Best.f 1 ([] : List (S49)) (([(⟨(⟨0, 0⟩ : S34), 0, (⟨0, ([] : List (S47)), 0, 0, 50, ([] : List Int), ([] : List (S102))⟩ : S39), 0⟩ : S41), (⟨(⟨0, 0⟩ : S34), 0, (⟨0, ([] : List (S47)), 0, 0, (-1), ([] : List Int), ([] : List (S102))⟩ : S39), 0⟩ : S41)] : List (S41)))).bind fun bt124 => ((decide_Best.f 1 ([] : List (S49)) ([] : List (S41))).bind fun bt126 => (if bt124.1 = 1 then (if bt124.2 = true then (some (!bt126.2)) else (some false)) else (some false)))
set_option maxHeartbeats 8000000 in
set_option maxRecDepth 100000 in
theorem interregnumlaw15_answers.calls  (r : Bool) (w : World) (h : interregnumlaw15_answers.f  = some r) :
    Calls Try.prog 9 #[] w fun e w' => e = .returned (.bool r) ∧ Below w.heap.size w w' := by
  have hu39 := Try.underlying39
  have hu41 := Try.underlying41
  have HB := Aside0.mk (Below.refl w.heap.size w)
  have H : ((decide_Best.f 1 ([] : List (S49)) (([(⟨(⟨0, 0⟩ : S34), 0, (⟨0, ([] : List (S47)), 0, 0, 50, ([] : List Int), ([] : List (S102))⟩ : S39), 0⟩ : S41), (⟨(⟨0, 0⟩ : S34), 0, (⟨0, ([] : List (S47)), 0, 0, (-1), ([] : List Int), ([] : List (S102))⟩ : S39), 0⟩ : S41)] : List (S41)))).bind fun bt124 => ((decide_Best.f 1 ([] : List (S49)) ([] : List (S41))).bind fun bt126 => (if bt124.1 = 1 then (if bt124.2 = true then (some (!bt126.2)) else (some false)) else (some false)))) = some r := h
  clear h
  obtain ⟨y121, hy121⟩ : ∃ y_ : List (S41), y_ = (([(⟨(⟨0, 0⟩ : S34), 0, (⟨0, ([] : List (S47)), 0, 0, 50, ([] : List Int), ([] : List (S102))⟩ : S39), 0⟩ : S41), (⟨(⟨0, 0⟩ : S34), 0, (⟨0, ([] : List (S47)), 0, 0, (-1), ([] : List Int), ([] : List (S102))⟩ : S39), 0⟩ : S41)] : List (S41))) := ⟨_, rfl⟩
  replace H : ((decide_Best.f 1 ([] : List (S49)) y121).bind fun bt124 => ((decide_Best.f 1 ([] : List (S49)) ([] : List (S41))).bind fun bt126 => (if bt124.1 = 1 then (if bt124.2 = true then (some (!bt126.2)) else (some false)) else (some false)))) = some r := by first | (rw [hy121]; with_reducible exact H) | (have H2_ := (Option.bind_some _ _).symm.trans H; rw [hy121]; with_reducible exact H2_) | (have H2_ := (Option.bind_some _ _).symm.trans H; with_reducible exact H2_) | with_reducible exact H | (rw [hy121]; exact H) | exact H
  have Ny121 := Aside0.mk hy121
  clear hy121
  replace H := Option.bind_eq_some_iff.mp H
  obtain ⟨⟨t124, t125⟩, A10, H⟩ := H
  replace H : ((decide_Best.f 1 ([] : List (S49)) ([] : List (S41))).bind fun bt126 => (if t124 = 1 then (if t125 = true then (some (!bt126.2)) else (some false)) else (some false))) = some r := H
  have A1 := Aside0.mk A10
  clear A10
  replace H := Option.bind_eq_some_iff.mp H
  obtain ⟨⟨t126, t127⟩, A20, H⟩ := H
  replace H : (if t124 = 1 then (if t125 = true then (some (!t127)) else (some false)) else (some false)) = some r := H
  have A2 := Aside0.mk A20
  clear A20
  by_cases c3 : t124 = 1
  · rw [if_pos c3] at H
    have c3b0 : (t124 == 1) = true := beq_iff_eq.mpr c3
    have c3b1 : (t124 != 1) = false := bne_eq_false_iff_eq.mpr c3
    clear c3
    by_cases c4 : t125 = true
    · subst c4
      have H1 : (some (!t127)) = some r := by rw [if_pos rfl] at H; exact H
      clear H
      have H := H1
      clear H1
      obtain rfl := Option.some.inj H
      go_enter Try.func9, Try.ntmps9
      go_wp2_with (first | ((with_reducible refine gate_dst (N := 10) rfl ?_); refine Kd.R_lit k41 _ 41 ?hg (N := 10) ?hd (xs := ([(⟨(⟨0, 0⟩ : S34), 0, (⟨0, ([] : List (S47)), 0, 0, 50, ([] : List Int), ([] : List (S102))⟩ : S39), 0⟩ : S41), (⟨(⟨0, 0⟩ : S34), 0, (⟨0, ([] : List (S47)), 0, 0, (-1), ([] : List Int), ([] : List (S102))⟩ : S39), 0⟩ : S41)] : List (S41))) (inner := [.int .u32 0, .int .i64 0, .int .i64 0, .int .i64 0, .slice none 0 0, .int .u32 0, .int .i64 0, .int .i64 50, .slice none 0 0, .slice none 0 0, .int .i64 0, .int .u32 0, .int .i64 0, .int .i64 0, .int .i64 0, .slice none 0 0, .int .u32 0, .int .i64 0, .int .i64 (-1), .slice none 0 0, .slice none 0 0, .int .i64 0]) (ok := fun _ => True) (okp := fun _ => True) ?hr ?hp (fun _ hk => hk) trivial (Below.refl _ _) (Nat.le_refl _) (by simp) ?_; (case hd => rfl); (case hg => rfl); (case hr => first | (go_simp; done) | (go_simp; rfl) | (go_simp; simp [IntKind.wrap_u8, IntKind.wrap_u32]; done)); (case hp => exact (Reps.front (show Kd.M k41 _ _ _ (⟨(⟨0, 0⟩ : S34), 0, (⟨0, ([] : List (S47)), 0, 0, 50, ([] : List Int), ([] : List (S102))⟩ : S39), 0⟩ : S41) [.int .u32 0, .int .i64 0, .int .i64 0, .int .i64 0, .slice none 0 0, .int .u32 0, .int .i64 0, .int .i64 50, .slice none 0 0, .slice none 0 0, .int .i64 0] from (k41_mkM _ _ _ (⟨(⟨0, 0⟩ : S34), 0, (⟨0, ([] : List (S47)), 0, 0, 50, ([] : List Int), ([] : List (S102))⟩ : S39), 0⟩ : S41) (Kd.R_nil _ _ _ _ _) (Kd.R_nil _ _ _ _ _) (Kd.R_nil _ _ _ _ _))) rfl (Reps.front (show Kd.M k41 _ _ _ (⟨(⟨0, 0⟩ : S34), 0, (⟨0, ([] : List (S47)), 0, 0, (-1), ([] : List Int), ([] : List (S102))⟩ : S39), 0⟩ : S41) [.int .u32 0, .int .i64 0, .int .i64 0, .int .i64 0, .slice none 0 0, .int .u32 0, .int .i64 0, .int .i64 (-1), .slice none 0 0, .slice none 0 0, .int .i64 0] from (k41_mkM _ _ _ (⟨(⟨0, 0⟩ : S34), 0, (⟨0, ([] : List (S47)), 0, 0, (-1), ([] : List Int), ([] : List (S102))⟩ : S39), 0⟩ : S41) (Kd.R_nil _ _ _ _ _) (Kd.R_nil _ _ _ _ _) (Kd.R_nil _ _ _ _ _))) rfl (Reps.none _ _) rfl) rfl)); intro v122 w5 ho6 hb hg_ hnew_; clear hg_ hnew_; (first | rw [← Ny121.out] at ho6 | (simp only [Int.reduceToNat] at ho6; rw [← Ny121.out] at ho6)); have n0_ := Aside0.mk (Kd.R_lower ho6 (below_size (by repeat (first | (with_reducible first | exact HB.out | apply below_alloc | apply pw_below_drewN | apply below_drew1) | exact HB.out)))); have n1_ := Aside0.mk (below_step (by repeat (first | (with_reducible first | exact HB.out | apply below_alloc | apply pw_below_drewN | apply below_drew1) | exact HB.out)) hb); clear HB; have HO123 := n0_; have HB := n1_; clear n0_ n1_; clear hb ho6; obtain ⟨Ao7, co7, eo7⟩ := Kd.R_slice HO123.out; subst eo7) | ((with_reducible refine gate_callee (f := 10) rfl ?_); refine goesL_ (some 11) rfl rfl Try.func10 (by kernel_rfl) rfl #[.int .i64 1, .slice none 0 0, .slice Ao7 y121.length co7] rfl (by (try simp only [List.map_toArray, List.map_cons, List.map_nil]); first | done | rfl | (simp only [List.length_drop, List.length_take]; rfl)) ?_; (refine (decide_Best.calls 1 _ _ ([] : List (S49)) _ _ y121 t124 true _ ?side1 ?side2 ?side3 ?side4 A1.out).mono ?_); (case side1 => exact Kd.C_nil _ _); (case side2 => exact Nat.le_refl _); (case side3 => repeat (first | exact (Kd.R_reads' HO123.out).2.2 | (with_reducible refine Kd.C_alloc ?_ _) | (with_reducible refine Kd.C_drewN ?_ _) | (with_reducible refine Kd.C_drew ?_))); (case side4 => exact (Kd.R_reads' HO123.out).2.1); rintro e w8 ⟨rfl, hb⟩; refine ⟨_, rfl, ?_⟩; have n0_ := Aside0.mk (Kd.R_below (by (with_reducible repeat (first | apply Kd.R_alloc | apply Kd.R_drewN | apply Kd.R_drew)); exact HO123.out) hb); have n1_ := Aside0.mk (below_step (by repeat (first | (with_reducible first | exact HB.out | apply below_alloc | apply pw_below_drewN | apply below_drew1) | exact HB.out)) hb); clear HO123; clear HB; have HO123 := n0_; have HB := n1_; clear n0_ n1_; (try clear hb); (try clear hb2); (try clear hk); (try clear hi)) | ((with_reducible refine gate_callee (f := 10) rfl ?_); refine goesL_ (some 15) rfl rfl Try.func10 (by kernel_rfl) rfl #[.int .i64 1, .slice none 0 0, .slice none 0 0] rfl (by (try simp only [List.map_toArray, List.map_cons, List.map_nil]); first | done | rfl | (simp only [List.length_drop, List.length_take]; rfl)) ?_; (refine (decide_Best.calls 1 _ _ ([] : List (S49)) _ _ ([] : List (S41)) t126 t127 _ ?side1 ?side2 ?side3 ?side4 A2.out).mono ?_); (case side1 => exact Kd.C_nil _ _); (case side2 => exact Nat.le_refl _); (case side3 => exact Kd.C_nil _ _); (case side4 => exact Nat.le_refl _); rintro e w9 ⟨rfl, hb⟩; refine ⟨_, rfl, ?_⟩; have n0_ := Aside0.mk (Kd.R_below (by (with_reducible repeat (first | apply Kd.R_alloc | apply Kd.R_drewN | apply Kd.R_drew)); exact HO123.out) hb); have n1_ := Aside0.mk (below_step (by repeat (first | (with_reducible first | exact HB.out | apply below_alloc | apply pw_below_drewN | apply below_drew1) | exact HB.out)) hb); clear HO123; clear HB; have HO123 := n0_; have HB := n1_; clear n0_ n1_; (try clear hb); (try clear hb2); (try clear hk); (try clear hi)))
      go_ret
      exact ⟨by first | rfl | (simp [errW_none, errW_some] <;> rfl) | (simp [*, errW_none, errW_some] <;> rfl), by repeat (first | (with_reducible first | exact HB.out | apply below_alloc | apply pw_below_drewN | apply below_drew1) | exact HB.out)⟩
    · replace c4 := Bool.eq_false_iff.mpr c4
      subst c4
      have H1 : (some false) = some r := by rw [if_neg (show ¬ (false = true) by decide)] at H; exact H
      clear H
      have H := H1
      clear H1
      obtain rfl := Option.some.inj H
      go_enter Try.func9, Try.ntmps9
      go_wp2_with (first | ((with_reducible refine gate_dst (N := 10) rfl ?_); refine Kd.R_lit k41 _ 41 ?hg (N := 10) ?hd (xs := ([(⟨(⟨0, 0⟩ : S34), 0, (⟨0, ([] : List (S47)), 0, 0, 50, ([] : List Int), ([] : List (S102))⟩ : S39), 0⟩ : S41), (⟨(⟨0, 0⟩ : S34), 0, (⟨0, ([] : List (S47)), 0, 0, (-1), ([] : List Int), ([] : List (S102))⟩ : S39), 0⟩ : S41)] : List (S41))) (inner := [.int .u32 0, .int .i64 0, .int .i64 0, .int .i64 0, .slice none 0 0, .int .u32 0, .int .i64 0, .int .i64 50, .slice none 0 0, .slice none 0 0, .int .i64 0, .int .u32 0, .int .i64 0, .int .i64 0, .int .i64 0, .slice none 0 0, .int .u32 0, .int .i64 0, .int .i64 (-1), .slice none 0 0, .slice none 0 0, .int .i64 0]) (ok := fun _ => True) (okp := fun _ => True) ?hr ?hp (fun _ hk => hk) trivial (Below.refl _ _) (Nat.le_refl _) (by simp) ?_; (case hd => rfl); (case hg => rfl); (case hr => first | (go_simp; done) | (go_simp; rfl) | (go_simp; simp [IntKind.wrap_u8, IntKind.wrap_u32]; done)); (case hp => exact (Reps.front (show Kd.M k41 _ _ _ (⟨(⟨0, 0⟩ : S34), 0, (⟨0, ([] : List (S47)), 0, 0, 50, ([] : List Int), ([] : List (S102))⟩ : S39), 0⟩ : S41) [.int .u32 0, .int .i64 0, .int .i64 0, .int .i64 0, .slice none 0 0, .int .u32 0, .int .i64 0, .int .i64 50, .slice none 0 0, .slice none 0 0, .int .i64 0] from (k41_mkM _ _ _ (⟨(⟨0, 0⟩ : S34), 0, (⟨0, ([] : List (S47)), 0, 0, 50, ([] : List Int), ([] : List (S102))⟩ : S39), 0⟩ : S41) (Kd.R_nil _ _ _ _ _) (Kd.R_nil _ _ _ _ _) (Kd.R_nil _ _ _ _ _))) rfl (Reps.front (show Kd.M k41 _ _ _ (⟨(⟨0, 0⟩ : S34), 0, (⟨0, ([] : List (S47)), 0, 0, (-1), ([] : List Int), ([] : List (S102))⟩ : S39), 0⟩ : S41) [.int .u32 0, .int .i64 0, .int .i64 0, .int .i64 0, .slice none 0 0, .int .u32 0, .int .i64 0, .int .i64 (-1), .slice none 0 0, .slice none 0 0, .int .i64 0] from (k41_mkM _ _ _ (⟨(⟨0, 0⟩ : S34), 0, (⟨0, ([] : List (S47)), 0, 0, (-1), ([] : List Int), ([] : List (S102))⟩ : S39), 0⟩ : S41) (Kd.R_nil _ _ _ _ _) (Kd.R_nil _ _ _ _ _) (Kd.R_nil _ _ _ _ _))) rfl (Reps.none _ _) rfl) rfl)); intro v122 w10 ho11 hb hg_ hnew_; clear hg_ hnew_; (first | rw [← Ny121.out] at ho11 | (simp only [Int.reduceToNat] at ho11; rw [← Ny121.out] at ho11)); have n0_ := Aside0.mk (Kd.R_lower ho11 (below_size (by repeat (first | (with_reducible first | exact HB.out | apply below_alloc | apply pw_below_drewN | apply below_drew1) | exact HB.out)))); have n1_ := Aside0.mk (below_step (by repeat (first | (with_reducible first | exact HB.out | apply below_alloc | apply pw_below_drewN | apply below_drew1) | exact HB.out)) hb); clear HB; have HO123 := n0_; have HB := n1_; clear n0_ n1_; clear hb ho11; obtain ⟨Ao12, co12, eo12⟩ := Kd.R_slice HO123.out; subst eo12) | ((with_reducible refine gate_callee (f := 10) rfl ?_); refine goesL_ (some 11) rfl rfl Try.func10 (by kernel_rfl) rfl #[.int .i64 1, .slice none 0 0, .slice Ao12 y121.length co12] rfl (by (try simp only [List.map_toArray, List.map_cons, List.map_nil]); first | done | rfl | (simp only [List.length_drop, List.length_take]; rfl)) ?_; (refine (decide_Best.calls 1 _ _ ([] : List (S49)) _ _ y121 t124 false _ ?side1 ?side2 ?side3 ?side4 A1.out).mono ?_); (case side1 => exact Kd.C_nil _ _); (case side2 => exact Nat.le_refl _); (case side3 => repeat (first | exact (Kd.R_reads' HO123.out).2.2 | (with_reducible refine Kd.C_alloc ?_ _) | (with_reducible refine Kd.C_drewN ?_ _) | (with_reducible refine Kd.C_drew ?_))); (case side4 => exact (Kd.R_reads' HO123.out).2.1); rintro e w13 ⟨rfl, hb⟩; refine ⟨_, rfl, ?_⟩; have n0_ := Aside0.mk (Kd.R_below (by (with_reducible repeat (first | apply Kd.R_alloc | apply Kd.R_drewN | apply Kd.R_drew)); exact HO123.out) hb); have n1_ := Aside0.mk (below_step (by repeat (first | (with_reducible first | exact HB.out | apply below_alloc | apply pw_below_drewN | apply below_drew1) | exact HB.out)) hb); clear HO123; clear HB; have HO123 := n0_; have HB := n1_; clear n0_ n1_; (try clear hb); (try clear hb2); (try clear hk); (try clear hi)) | ((with_reducible refine gate_callee (f := 10) rfl ?_); refine goesL_ (some 15) rfl rfl Try.func10 (by kernel_rfl) rfl #[.int .i64 1, .slice none 0 0, .slice none 0 0] rfl (by (try simp only [List.map_toArray, List.map_cons, List.map_nil]); first | done | rfl | (simp only [List.length_drop, List.length_take]; rfl)) ?_; (refine (decide_Best.calls 1 _ _ ([] : List (S49)) _ _ ([] : List (S41)) t126 t127 _ ?side1 ?side2 ?side3 ?side4 A2.out).mono ?_); (case side1 => exact Kd.C_nil _ _); (case side2 => exact Nat.le_refl _); (case side3 => exact Kd.C_nil _ _); (case side4 => exact Nat.le_refl _); rintro e w14 ⟨rfl, hb⟩; refine ⟨_, rfl, ?_⟩; have n0_ := Aside0.mk (Kd.R_below (by (with_reducible repeat (first | apply Kd.R_alloc | apply Kd.R_drewN | apply Kd.R_drew)); exact HO123.out) hb); have n1_ := Aside0.mk (below_step (by repeat (first | (with_reducible first | exact HB.out | apply below_alloc | apply pw_below_drewN | apply below_drew1) | exact HB.out)) hb); clear HO123; clear HB; have HO123 := n0_; have HB := n1_; clear n0_ n1_; (try clear hb); (try clear hb2); (try clear hk); (try clear hi)))
      go_ret
      exact ⟨by first | rfl | (simp [errW_none, errW_some] <;> rfl) | (simp [*, errW_none, errW_some] <;> rfl), by repeat (first | (with_reducible first | exact HB.out | apply below_alloc | apply pw_below_drewN | apply below_drew1) | exact HB.out)⟩
  · rw [if_neg c3] at H
    have c3b0 : (t124 == 1) = false := beq_eq_false_iff_ne.mpr c3
    have c3b1 : (t124 != 1) = true := bne_iff_ne.mpr c3
    obtain rfl := Option.some.inj H
    go_enter Try.func9, Try.ntmps9
    go_wp2_with (first | ((with_reducible refine gate_dst (N := 10) rfl ?_); refine Kd.R_lit k41 _ 41 ?hg (N := 10) ?hd (xs := ([(⟨(⟨0, 0⟩ : S34), 0, (⟨0, ([] : List (S47)), 0, 0, 50, ([] : List Int), ([] : List (S102))⟩ : S39), 0⟩ : S41), (⟨(⟨0, 0⟩ : S34), 0, (⟨0, ([] : List (S47)), 0, 0, (-1), ([] : List Int), ([] : List (S102))⟩ : S39), 0⟩ : S41)] : List (S41))) (inner := [.int .u32 0, .int .i64 0, .int .i64 0, .int .i64 0, .slice none 0 0, .int .u32 0, .int .i64 0, .int .i64 50, .slice none 0 0, .slice none 0 0, .int .i64 0, .int .u32 0, .int .i64 0, .int .i64 0, .int .i64 0, .slice none 0 0, .int .u32 0, .int .i64 0, .int .i64 (-1), .slice none 0 0, .slice none 0 0, .int .i64 0]) (ok := fun _ => True) (okp := fun _ => True) ?hr ?hp (fun _ hk => hk) trivial (Below.refl _ _) (Nat.le_refl _) (by simp) ?_; (case hd => rfl); (case hg => rfl); (case hr => first | (go_simp; done) | (go_simp; rfl) | (go_simp; simp [IntKind.wrap_u8, IntKind.wrap_u32]; done)); (case hp => exact (Reps.front (show Kd.M k41 _ _ _ (⟨(⟨0, 0⟩ : S34), 0, (⟨0, ([] : List (S47)), 0, 0, 50, ([] : List Int), ([] : List (S102))⟩ : S39), 0⟩ : S41) [.int .u32 0, .int .i64 0, .int .i64 0, .int .i64 0, .slice none 0 0, .int .u32 0, .int .i64 0, .int .i64 50, .slice none 0 0, .slice none 0 0, .int .i64 0] from (k41_mkM _ _ _ (⟨(⟨0, 0⟩ : S34), 0, (⟨0, ([] : List (S47)), 0, 0, 50, ([] : List Int), ([] : List (S102))⟩ : S39), 0⟩ : S41) (Kd.R_nil _ _ _ _ _) (Kd.R_nil _ _ _ _ _) (Kd.R_nil _ _ _ _ _))) rfl (Reps.front (show Kd.M k41 _ _ _ (⟨(⟨0, 0⟩ : S34), 0, (⟨0, ([] : List (S47)), 0, 0, (-1), ([] : List Int), ([] : List (S102))⟩ : S39), 0⟩ : S41) [.int .u32 0, .int .i64 0, .int .i64 0, .int .i64 0, .slice none 0 0, .int .u32 0, .int .i64 0, .int .i64 (-1), .slice none 0 0, .slice none 0 0, .int .i64 0] from (k41_mkM _ _ _ (⟨(⟨0, 0⟩ : S34), 0, (⟨0, ([] : List (S47)), 0, 0, (-1), ([] : List Int), ([] : List (S102))⟩ : S39), 0⟩ : S41) (Kd.R_nil _ _ _ _ _) (Kd.R_nil _ _ _ _ _) (Kd.R_nil _ _ _ _ _))) rfl (Reps.none _ _) rfl) rfl)); intro v122 w15 ho16 hb hg_ hnew_; clear hg_ hnew_; (first | rw [← Ny121.out] at ho16 | (simp only [Int.reduceToNat] at ho16; rw [← Ny121.out] at ho16)); have n0_ := Aside0.mk (Kd.R_lower ho16 (below_size (by repeat (first | (with_reducible first | exact HB.out | apply below_alloc | apply pw_below_drewN | apply below_drew1) | exact HB.out)))); have n1_ := Aside0.mk (below_step (by repeat (first | (with_reducible first | exact HB.out | apply below_alloc | apply pw_below_drewN | apply below_drew1) | exact HB.out)) hb); clear HB; have HO123 := n0_; have HB := n1_; clear n0_ n1_; clear hb ho16; obtain ⟨Ao17, co17, eo17⟩ := Kd.R_slice HO123.out; subst eo17) | ((with_reducible refine gate_callee (f := 10) rfl ?_); refine goesL_ (some 11) rfl rfl Try.func10 (by kernel_rfl) rfl #[.int .i64 1, .slice none 0 0, .slice Ao17 y121.length co17] rfl (by (try simp only [List.map_toArray, List.map_cons, List.map_nil]); first | done | rfl | (simp only [List.length_drop, List.length_take]; rfl)) ?_; (refine (decide_Best.calls 1 _ _ ([] : List (S49)) _ _ y121 t124 t125 _ ?side1 ?side2 ?side3 ?side4 A1.out).mono ?_); (case side1 => exact Kd.C_nil _ _); (case side2 => exact Nat.le_refl _); (case side3 => repeat (first | exact (Kd.R_reads' HO123.out).2.2 | (with_reducible refine Kd.C_alloc ?_ _) | (with_reducible refine Kd.C_drewN ?_ _) | (with_reducible refine Kd.C_drew ?_))); (case side4 => exact (Kd.R_reads' HO123.out).2.1); rintro e w18 ⟨rfl, hb⟩; refine ⟨_, rfl, ?_⟩; have n0_ := Aside0.mk (Kd.R_below (by (with_reducible repeat (first | apply Kd.R_alloc | apply Kd.R_drewN | apply Kd.R_drew)); exact HO123.out) hb); have n1_ := Aside0.mk (below_step (by repeat (first | (with_reducible first | exact HB.out | apply below_alloc | apply pw_below_drewN | apply below_drew1) | exact HB.out)) hb); clear HO123; clear HB; have HO123 := n0_; have HB := n1_; clear n0_ n1_; (try clear hb); (try clear hb2); (try clear hk); (try clear hi)) | ((with_reducible refine gate_callee (f := 10) rfl ?_); refine goesL_ (some 15) rfl rfl Try.func10 (by kernel_rfl) rfl #[.int .i64 1, .slice none 0 0, .slice none 0 0] rfl (by (try simp only [List.map_toArray, List.map_cons, List.map_nil]); first | done | rfl | (simp only [List.length_drop, List.length_take]; rfl)) ?_; (refine (decide_Best.calls 1 _ _ ([] : List (S49)) _ _ ([] : List (S41)) t126 t127 _ ?side1 ?side2 ?side3 ?side4 A2.out).mono ?_); (case side1 => exact Kd.C_nil _ _); (case side2 => exact Nat.le_refl _); (case side3 => exact Kd.C_nil _ _); (case side4 => exact Nat.le_refl _); rintro e w19 ⟨rfl, hb⟩; refine ⟨_, rfl, ?_⟩; have n0_ := Aside0.mk (Kd.R_below (by (with_reducible repeat (first | apply Kd.R_alloc | apply Kd.R_drewN | apply Kd.R_drew)); exact HO123.out) hb); have n1_ := Aside0.mk (below_step (by repeat (first | (with_reducible first | exact HB.out | apply below_alloc | apply pw_below_drewN | apply below_drew1) | exact HB.out)) hb); clear HO123; clear HB; have HO123 := n0_; have HB := n1_; clear n0_ n1_; (try clear hb); (try clear hb2); (try clear hk); (try clear hi)))
    go_ret
    exact ⟨by first | rfl | (simp [errW_none, errW_some] <;> rfl) | (simp [*, errW_none, errW_some] <;> rfl), by repeat (first | (with_reducible first | exact HB.out | apply below_alloc | apply pw_below_drewN | apply below_drew1) | exact HB.out)⟩

/-! ### interregnumlaw15_DecideLess: function 5 -/
mutual
def interregnumlaw15_DecideLess.j0 : Nat → Int → List (S49) → List (S41) → Int → Bool → Option (Bool)
  | 0, _, _, _, _, _ => none
  | k + 1, x0, x1, x2, x3, x27 => if x27 = true then ((interregnumlaw15_answers.f).bind fun t129 => (some t129)) else (interregnumlaw15_DecideLess.l0 k x0 x1 x2 x3 0)
def interregnumlaw15_DecideLess.l0 : Nat → Int → List (S49) → List (S41) → Int → Int → Option (Bool)
  | 0, _, _, _, _, _ => none
  | k + 1, x0, x1, x2, x3, x9 => if x9 < (x2.length : Int) then (if 0 ≤ x9 then (if ((rd_T41 x2 x9).f2.f3) > 0 then ((interregnumlaw15_answers.f).bind fun t131 => (some t131)) else (interregnumlaw15_DecideLess.l0 k x0 x1 x2 x3 (wrap64 (x9 + 1)))) else (none)) else ((decide_Best.f x0 x1 x2).bind fun bt132 => (if (x2.length : Int) = 0 then (none) else (if (Int.tmod (wrap64 (x3)) (x2.length : Int)) = bt132.1 then ((interregnumlaw15_answers.f).bind fun t134 => (some t134)) else ((some (([] : List (S41)) : List (S41))).bind fun y135 => (if 0 ≤ (Int.tmod (wrap64 (x3)) (x2.length : Int)) then (if (Int.tmod (wrap64 (x3)) (x2.length : Int)) ≤ (x2.length : Int) then ((some (x2.take ((Int.tmod (wrap64 (x3)) (x2.length : Int)) : Int).toNat : List (S41))).bind fun y138 => (if y135.length + y138.length < 1034834473200 then ((some (y135 ++ y138 : List (S41))).bind fun y142 => (if 0 ≤ (wrap64 ((Int.tmod (wrap64 (x3)) (x2.length : Int)) + 1)) then (if (wrap64 ((Int.tmod (wrap64 (x3)) (x2.length : Int)) + 1)) ≤ (x2.length : Int) then ((some (x2.drop ((wrap64 ((Int.tmod (wrap64 (x3)) (x2.length : Int)) + 1)) : Int).toNat : List (S41))).bind fun y145 => (if y142.length + y145.length < 1034834473200 then ((decide_Best.f x0 x1 (y142 ++ y145)).bind fun bt152 => (if (Int.tmod (wrap64 (x3)) (x2.length : Int)) < bt132.1 then (interregnumlaw15_DecideLess.j2 k bt132.1 bt132.2 (wrap64 (bt152.1 + 1)) bt152.2) else (interregnumlaw15_DecideLess.j2 k bt132.1 bt132.2 bt152.1 bt152.2))) else (none))) else (none)) else (none))) else (none))) else (none)) else (none))))))
def interregnumlaw15_DecideLess.j2 : Nat → Int → Bool → Int → Bool → Option (Bool)
  | 0, _, _, _, _ => none
  | k + 1, x10, x11, x13, x14 => (interregnumlaw15_answers.f).bind fun t154 => (if t154 = true then (if (x11 == x14) = true then (if x11 = true then (some (x10 == x13)) else (some true)) else (some false)) else (some false))
end
def interregnumlaw15_DecideLess.f (k : Nat) (a0 : Int) (l1 : List (S49)) (l2 : List (S41)) (a3 : Int) : Option (Bool) := (interregnumlaw15_small.f k l2).bind fun t128 => (if t128 = true then (if (l2.length : Int) < 2 then (interregnumlaw15_DecideLess.j0 k a0 l1 l2 a3 true) else (interregnumlaw15_DecideLess.j0 k a0 l1 l2 a3 (decide ((l1.length : Int) > 20)))) else (interregnumlaw15_DecideLess.j0 k a0 l1 l2 a3 true))
theorem interregnumlaw15_DecideLess.mono_l : ∀ k, (∀ y0 y1 y2 y3 y4, LeO (interregnumlaw15_DecideLess.j0 k y0 y1 y2 y3 y4) (interregnumlaw15_DecideLess.j0 (k + 1) y0 y1 y2 y3 y4)) ∧ (∀ y0 y1 y2 y3 y4, LeO (interregnumlaw15_DecideLess.l0 k y0 y1 y2 y3 y4) (interregnumlaw15_DecideLess.l0 (k + 1) y0 y1 y2 y3 y4)) ∧ (∀ y0 y1 y2 y3, LeO (interregnumlaw15_DecideLess.j2 k y0 y1 y2 y3) (interregnumlaw15_DecideLess.j2 (k + 1) y0 y1 y2 y3))
  | 0 => ⟨fun _ _ _ _ _ r h => by simp [interregnumlaw15_DecideLess.j0] at h, fun _ _ _ _ _ r h => by simp [interregnumlaw15_DecideLess.l0] at h, fun _ _ _ _ r h => by simp [interregnumlaw15_DecideLess.j2] at h⟩
  | k + 1 => by
    obtain ⟨ih0, ih1, ih2⟩ := interregnumlaw15_DecideLess.mono_l k
    refine ⟨?_, ?_, ?_⟩
    · intro y0 y1 y2 y3 y4
      unfold interregnumlaw15_DecideLess.j0
      repeat' first
      | (with_reducible exact ih0 _ _ _ _ _)
      | (with_reducible exact ih1 _ _ _ _ _)
      | (with_reducible exact ih2 _ _ _ _)
      | (with_reducible exact interregnumlaw15_small.mono _ _)
      | (with_reducible exact LeO.refl _)
      | (with_reducible exact LeO.none _)
      | (with_reducible refine LeO.ite ?_ ?_)
      | (with_reducible refine LeO.bind ?_ (fun _ => ?_))
      | exact ih0 _ _ _ _ _
      | exact ih1 _ _ _ _ _
      | exact ih2 _ _ _ _
      | exact interregnumlaw15_small.mono _ _
      | exact LeO.none _
      | refine LeO.ite ?_ ?_
      | refine LeO.bind ?_ (fun _ => ?_)
    · intro y0 y1 y2 y3 y4
      unfold interregnumlaw15_DecideLess.l0
      repeat' first
      | (with_reducible exact ih0 _ _ _ _ _)
      | (with_reducible exact ih1 _ _ _ _ _)
      | (with_reducible exact ih2 _ _ _ _)
      | (with_reducible exact interregnumlaw15_small.mono _ _)
      | (with_reducible exact LeO.refl _)
      | (with_reducible exact LeO.none _)
      | (with_reducible refine LeO.ite ?_ ?_)
      | (with_reducible refine LeO.bind ?_ (fun _ => ?_))
      | exact ih0 _ _ _ _ _
      | exact ih1 _ _ _ _ _
      | exact ih2 _ _ _ _
      | exact interregnumlaw15_small.mono _ _
      | exact LeO.none _
      | refine LeO.ite ?_ ?_
      | refine LeO.bind ?_ (fun _ => ?_)
    · intro y0 y1 y2 y3
      unfold interregnumlaw15_DecideLess.j2
      repeat' first
      | (with_reducible exact ih0 _ _ _ _ _)
      | (with_reducible exact ih1 _ _ _ _ _)
      | (with_reducible exact ih2 _ _ _ _)
      | (with_reducible exact interregnumlaw15_small.mono _ _)
      | (with_reducible exact LeO.refl _)
      | (with_reducible exact LeO.none _)
      | (with_reducible refine LeO.ite ?_ ?_)
      | (with_reducible refine LeO.bind ?_ (fun _ => ?_))
      | exact ih0 _ _ _ _ _
      | exact ih1 _ _ _ _ _
      | exact ih2 _ _ _ _
      | exact interregnumlaw15_small.mono _ _
      | exact LeO.none _
      | refine LeO.ite ?_ ?_
      | refine LeO.bind ?_ (fun _ => ?_)
theorem interregnumlaw15_DecideLess.mono : ∀ a0 a1 a2 a3 k, LeO (interregnumlaw15_DecideLess.f k a0 a1 a2 a3) (interregnumlaw15_DecideLess.f (k + 1) a0 a1 a2 a3) := by
  intro a0 a1 a2 a3 k
  obtain ⟨ih0, ih1, ih2⟩ := interregnumlaw15_DecideLess.mono_l k
  unfold interregnumlaw15_DecideLess.f
  repeat' first
      | (with_reducible exact ih0 _ _ _ _ _)
      | (with_reducible exact ih1 _ _ _ _ _)
      | (with_reducible exact ih2 _ _ _ _)
      | (with_reducible exact interregnumlaw15_small.mono _ _)
      | (with_reducible exact LeO.refl _)
      | (with_reducible exact LeO.none _)
      | (with_reducible refine LeO.ite ?_ ?_)
      | (with_reducible refine LeO.bind ?_ (fun _ => ?_))
      | exact ih0 _ _ _ _ _
      | exact ih1 _ _ _ _ _
      | exact ih2 _ _ _ _
      | exact interregnumlaw15_small.mono _ _
      | exact LeO.none _
      | refine LeO.ite ?_ ?_
      | refine LeO.bind ?_ (fun _ => ?_)
def interregnumlaw15_DecideLess.T12 : Bool × List (List Nat × List Nat) := (true, [([], []), ([], []), ([], []), ([], []), ([], []), ([3, 4], [3, 4]), ([2, 5], [2, 5]), ([], []), ([], []), ([8], [8]), ([7, 9], [7, 9]), ([6, 10, 6], [6, 10]), ([0, 1, 11, 11], [0, 1, 11]), ([12], [12]), ([13], [13]), ([13], [13]), ([14, 12, 0, 1, 2, 3, 4, 5, 6, 7, 8, 9, 10, 11, 12, 13, 14], [14]), ([15, 16, 0, 1, 2, 3, 4, 5, 6, 7, 8, 9, 10, 11, 12, 13, 14, 15, 16], [15])])
def interregnumlaw15_DecideLess.B12 : List Nat := [0, 0, 0, 0, 0, 24, 60, 0, 0, 256, 896, 2044, 4095, 8191, 16383, 16383, 32767, 131071]
theorem interregnumlaw15_DecideLess.tab12 : rtab .any (opsOf Try.f5 12) = interregnumlaw15_DecideLess.T12 := by kernel_rfl
theorem interregnumlaw15_DecideLess.bits12 : waitsOk interregnumlaw15_DecideLess.T12.2 interregnumlaw15_DecideLess.B12 = true := by kernel_rfl
set_option maxHeartbeats 8000000 in
set_option maxRecDepth 100000 in
theorem interregnumlaw15_DecideLess.calls (k : Nat) (a0 : Int) (A1 : Option Addr) (c1 : Nat) (l1 : List (S49)) (A2 : Option Addr) (c2 : Nat) (l2 : List (S41)) (a3 : Int) (r : Bool) (w : World) (hr1 : Kd.C k49 w A1 l1.length l1) (hc1 : l1.length ≤ c1) (hr2 : Kd.C k41 w A2 l2.length l2) (hc2 : l2.length ≤ c2) (h : interregnumlaw15_DecideLess.f k a0 l1 l2 a3 = some r) :
    Calls Try.prog 5 #[.int .i64 a0, .slice A1 l1.length c1, .slice A2 l2.length c2, .int .u8 a3] w fun e w' => e = .returned (.bool r) ∧ Below w.heap.size w w' := by
  have HR1 := Aside0.mk hr1
  have HC1 := Aside0.mk hc1
  clear hr1 hc1
  have HR2 := Aside0.mk hr2
  have HC2 := Aside0.mk hc2
  clear hr2 hc2
  have HB := Aside0.mk (Below.refl w.heap.size w)
  have H : ((interregnumlaw15_small.f k l2).bind fun t128 => (if t128 = true then (if (l2.length : Int) < 2 then (interregnumlaw15_DecideLess.j0 k a0 l1 l2 a3 true) else (interregnumlaw15_DecideLess.j0 k a0 l1 l2 a3 (decide ((l1.length : Int) > 20)))) else (interregnumlaw15_DecideLess.j0 k a0 l1 l2 a3 true))) = some r := h
  clear h
  have HC5 := Aside0.mk H
  clear H
  go_enter Try.func5, Try.ntmps5
  go_upto_region 1 with (fail)
  go_cut [27] (fun v27 wc => ∃ (kq : Nat) (x27_4 : Bool), v27 = .bool x27_4 ∧ Aside0 (interregnumlaw15_DecideLess.j0 kq a0 l1 l2 a3 x27_4 = some r) ∧ Aside0 (kq ≤ k) ∧ Aside0 (Below w.heap.size w wc))
  case first =>
    have H := HC5.out
    clear HC5
    replace H := Option.bind_eq_some_iff.mp H
    obtain ⟨t128, A60, H⟩ := H
    replace H : (if t128 = true then (if (l2.length : Int) < 2 then (interregnumlaw15_DecideLess.j0 k a0 l1 l2 a3 true) else (interregnumlaw15_DecideLess.j0 k a0 l1 l2 a3 (decide ((l1.length : Int) > 20)))) else (interregnumlaw15_DecideLess.j0 k a0 l1 l2 a3 true)) = some r := H
    have A6 := Aside0.mk A60
    clear A60
    by_cases c7 : t128 = true
    · subst c7
      have H1 : (if (l2.length : Int) < 2 then (interregnumlaw15_DecideLess.j0 k a0 l1 l2 a3 true) else (interregnumlaw15_DecideLess.j0 k a0 l1 l2 a3 (decide ((l1.length : Int) > 20)))) = some r := by rw [if_pos rfl] at H; exact H
      clear H
      have H := H1
      clear H1
      by_cases c8 : (l2.length : Int) < 2
      · rw [if_pos c8] at H
        have c8b0 : decide ((l2.length : Int) < 2) = true := decide_eq_true c8
        have c8b1 : decide (l2.length < 2) = true := decide_eq_true (by omega)
        clear c8
        (first | rw [c8b0] | (simp only [i64_w, i32_w]; rw [c8b0]) | skip)
        have H' := Aside0.mk H
        clear H
        go_wp2_with (first | ((with_reducible refine gate_callee (f := 8) rfl ?_); refine goesL_ (some 16) rfl rfl Try.func8 (by kernel_rfl) rfl #[.slice A2 l2.length c2] rfl (by (try simp only [List.map_toArray, List.map_cons, List.map_nil]); first | done | rfl | (simp only [List.length_drop, List.length_take]; rfl)) ?_; (with_reducible refine (interregnumlaw15_small.calls k _ _ l2 true _ ?side1 ?side2 A6.out).mono ?_); (case side1 => repeat (first | exact (Kd.C_below HR2.out HB.out) | (with_reducible refine Kd.C_alloc ?_ _) | (with_reducible refine Kd.C_drewN ?_ _) | (with_reducible refine Kd.C_drew ?_))); (case side2 => exact HC2.out); rintro e w9 ⟨rfl, hb⟩; refine ⟨_, rfl, ?_⟩; have n0_ := Aside0.mk (below_step (by repeat (first | (with_reducible first | exact HB.out | apply below_alloc | apply pw_below_drewN | apply below_drew1) | exact HB.out)) hb); clear HB; have HB := n0_; clear n0_; (try clear hb); (try clear hb2); (try clear hk); (try clear hi)))
        go_meet
        case rel => exact ⟨_, (true), (by first | rfl | (simp; done) | (simp [*]; done)), H', ⟨by first | omega | exact Nat.le_refl _⟩, ⟨by repeat (first | (with_reducible first | exact HB.out | apply below_alloc | apply pw_below_drewN | apply below_drew1) | exact HB.out)⟩⟩
      · rw [if_neg c8] at H
        have c8b0 : decide ((l2.length : Int) < 2) = false := decide_eq_false c8
        have c8b1 : decide (l2.length < 2) = false := decide_eq_false (by omega)
        clear c8
        (first | rw [c8b0] | (simp only [i64_w, i32_w]; rw [c8b0]) | skip)
        have H' := Aside0.mk H
        clear H
        go_wp2_with (first | ((with_reducible refine gate_callee (f := 8) rfl ?_); refine goesL_ (some 16) rfl rfl Try.func8 (by kernel_rfl) rfl #[.slice A2 l2.length c2] rfl (by (try simp only [List.map_toArray, List.map_cons, List.map_nil]); first | done | rfl | (simp only [List.length_drop, List.length_take]; rfl)) ?_; (with_reducible refine (interregnumlaw15_small.calls k _ _ l2 true _ ?side1 ?side2 A6.out).mono ?_); (case side1 => repeat (first | exact (Kd.C_below HR2.out HB.out) | (with_reducible refine Kd.C_alloc ?_ _) | (with_reducible refine Kd.C_drewN ?_ _) | (with_reducible refine Kd.C_drew ?_))); (case side2 => exact HC2.out); rintro e w10 ⟨rfl, hb⟩; refine ⟨_, rfl, ?_⟩; have n0_ := Aside0.mk (below_step (by repeat (first | (with_reducible first | exact HB.out | apply below_alloc | apply pw_below_drewN | apply below_drew1) | exact HB.out)) hb); clear HB; have HB := n0_; clear n0_; (try clear hb); (try clear hb2); (try clear hk); (try clear hi)))
        go_meet
        case rel => exact ⟨_, (decide ((l1.length : Int) > 20)), (by first | rfl | (simp; done) | (simp [*]; done)), H', ⟨by first | omega | exact Nat.le_refl _⟩, ⟨by repeat (first | (with_reducible first | exact HB.out | apply below_alloc | apply pw_below_drewN | apply below_drew1) | exact HB.out)⟩⟩
    · replace c7 := Bool.eq_false_iff.mpr c7
      subst c7
      have H1 : (interregnumlaw15_DecideLess.j0 k a0 l1 l2 a3 true) = some r := by rw [if_neg (show ¬ (false = true) by decide)] at H; exact H
      clear H
      have H := H1
      clear H1
      have H' := Aside0.mk H
      clear H
      go_wp2_with (first | ((with_reducible refine gate_callee (f := 8) rfl ?_); refine goesL_ (some 16) rfl rfl Try.func8 (by kernel_rfl) rfl #[.slice A2 l2.length c2] rfl (by (try simp only [List.map_toArray, List.map_cons, List.map_nil]); first | done | rfl | (simp only [List.length_drop, List.length_take]; rfl)) ?_; (with_reducible refine (interregnumlaw15_small.calls k _ _ l2 false _ ?side1 ?side2 A6.out).mono ?_); (case side1 => repeat (first | exact (Kd.C_below HR2.out HB.out) | (with_reducible refine Kd.C_alloc ?_ _) | (with_reducible refine Kd.C_drewN ?_ _) | (with_reducible refine Kd.C_drew ?_))); (case side2 => exact HC2.out); rintro e w11 ⟨rfl, hb⟩; refine ⟨_, rfl, ?_⟩; have n0_ := Aside0.mk (below_step (by repeat (first | (with_reducible first | exact HB.out | apply below_alloc | apply pw_below_drewN | apply below_drew1) | exact HB.out)) hb); clear HB; have HB := n0_; clear n0_; (try clear hb); (try clear hb2); (try clear hk); (try clear hi)))
      go_meet
      case rel => exact ⟨_, (true), (by first | rfl | (simp; done) | (simp [*]; done)), H', ⟨by first | omega | exact Nat.le_refl _⟩, ⟨by repeat (first | (with_reducible first | exact HB.out | apply below_alloc | apply pw_below_drewN | apply below_drew1) | exact HB.out)⟩⟩
  case rest =>
    clear HC5
    try clear c1
    try clear c2
    try clear p2
    try clear c5
    try clear c7
    try clear c8
    try clear c8b0
    try clear c8b1
    obtain ⟨kq, x27_4, rfl, HA, HJ4, HB⟩ := hcut
    cases kq with
    | zero => exact absurd HA.out (by simp [interregnumlaw15_DecideLess.j0])
    | succ kj4 =>
      have H := HA.out
      clear HA
      simp only [interregnumlaw15_DecideLess.j0] at H
      by_cases c12 : x27_4 = true
      · subst c12
        have H1 : ((interregnumlaw15_answers.f).bind fun t129 => (some t129)) = some r := by rw [if_pos rfl] at H; exact H
        clear H
        have H := H1
        clear H1
        replace H := Option.bind_eq_some_iff.mp H
        obtain ⟨t129, A130, H⟩ := H
        replace H : (some t129) = some r := H
        have A13 := Aside0.mk A130
        clear A130
        obtain rfl := Option.some.inj H
        go_wp2_with (first | ((with_reducible refine gate_callee (f := 9) rfl ?_); refine goesL_ (some 28) rfl rfl Try.func9 (by kernel_rfl) rfl #[] rfl (by (try simp only [List.map_toArray, List.map_cons, List.map_nil]); first | done | rfl | (simp only [List.length_drop, List.length_take]; rfl)) ?_; (with_reducible refine (interregnumlaw15_answers.calls  t129 _ A13.out).mono ?_); rintro e w14 ⟨rfl, hb⟩; refine ⟨_, rfl, ?_⟩; have n0_ := Aside0.mk (below_step (by repeat (first | (with_reducible first | exact HB.out | apply below_alloc | apply pw_below_drewN | apply below_drew1) | exact HB.out)) hb); clear HB; have HB := n0_; clear n0_; (try clear hb); (try clear hb2); (try clear hk); (try clear hi)))
        go_ret
        exact ⟨by first | rfl | (simp [errW_none, errW_some] <;> rfl) | (simp [*, errW_none, errW_some] <;> rfl), by repeat (first | (with_reducible first | exact HB.out | apply below_alloc | apply pw_below_drewN | apply below_drew1) | exact HB.out)⟩
      · replace c12 := Bool.eq_false_iff.mpr c12
        subst c12
        have H1 : (interregnumlaw15_DecideLess.l0 kj4 a0 l1 l2 a3 0) = some r := by rw [if_neg (show ¬ (false = true) by decide)] at H; exact H
        clear H
        have H := H1
        clear H1
        have H' := Aside0.mk H
        clear H
        go_wp2
        go_loopg [9] kj4 (fun kq v9 w' => ∃ (x9_2 : Int), v9 = .int .i64 x9_2 ∧ Aside0 (interregnumlaw15_DecideLess.l0 kq a0 l1 l2 a3 x9_2 = some r) ∧ Aside0 (kq ≤ kj4) ∧ Aside0 (Below w.heap.size w w'))
        case atStart => exact ⟨(0), (by first | rfl | (simp; done) | (simp [*]; done)), H', ⟨Nat.le_refl _⟩, ⟨by repeat (first | (with_reducible first | exact HB.out | apply below_alloc | apply pw_below_drewN | apply below_drew1) | exact HB.out)⟩⟩
        case round =>
          clear H'
          try clear c1
          try clear c2
          try clear p2
          try clear c5
          try clear c7
          try clear c8
          try clear c8b0
          try clear c8b1
          try clear c9
          try clear c12
          try clear p2
          obtain ⟨x9_2, rfl, HA, HK2, HB⟩ := hrel
          cases gk with
          | zero => exact absurd HA.out (by simp [interregnumlaw15_DecideLess.l0])
          | succ k2 =>
            have H := HA.out
            clear HA
            simp only [interregnumlaw15_DecideLess.l0] at H
            by_cases c15 : x9_2 < (l2.length : Int)
            · rw [if_pos c15] at H
              have c15b0 : decide (x9_2 < (l2.length : Int)) = true := decide_eq_true c15
              clear c15
              by_cases c16 : 0 ≤ x9_2
              · rw [if_pos c16] at H
                have c16b0 : decide (0 ≤ x9_2) = true := decide_eq_true c16
                clear c16
                by_cases c17 : ((rd_T41 l2 x9_2).f2.f3) > 0
                · rw [if_pos c17] at H
                  have c17b0 : decide (0 < ((rd_T41 l2 x9_2).f2.f3)) = true := decide_eq_true c17
                  clear c17
                  replace H := Option.bind_eq_some_iff.mp H
                  obtain ⟨t131, A180, H⟩ := H
                  replace H : (some t131) = some r := H
                  have A18 := Aside0.mk A180
                  clear A180
                  obtain rfl := Option.some.inj H
                  have p130 : 0 ≤ (x9_2 : Int) := of_decide_eq_true (by first | (with_reducible assumption) | assumption)
                  have q130 : x9_2 < (l2.length : Int) := of_decide_eq_true (by first | (with_reducible assumption) | assumption)
                  obtain ⟨ad130, A130_4, c130_4, A130_8, c130_8, A130_9, c130_9, e130, hx130_0, hx130_1, hx130_2, hx130_3, hx130_4, hx130_5, hx130_6, hx130_7, hx130_8, hx130_9, hx130_10, hl130_4, hi130_4, hl130_8, hi130_8, hl130_9, hi130_9⟩ := at_T41 HR2.out x9_2 p130 q130
                  cases e130
                  replace hx130_0 := (HB.out.cell (World.block_lt_of_cell? w _ hx130_0)).trans hx130_0
                  replace hx130_1 := (HB.out.cell (World.block_lt_of_cell? w _ hx130_1)).trans hx130_1
                  replace hx130_2 := (HB.out.cell (World.block_lt_of_cell? w _ hx130_2)).trans hx130_2
                  replace hx130_3 := (HB.out.cell (World.block_lt_of_cell? w _ hx130_3)).trans hx130_3
                  replace hx130_4 := (HB.out.cell (World.block_lt_of_cell? w _ hx130_4)).trans hx130_4
                  replace hx130_5 := (HB.out.cell (World.block_lt_of_cell? w _ hx130_5)).trans hx130_5
                  replace hx130_6 := (HB.out.cell (World.block_lt_of_cell? w _ hx130_6)).trans hx130_6
                  replace hx130_7 := (HB.out.cell (World.block_lt_of_cell? w _ hx130_7)).trans hx130_7
                  replace hx130_8 := (HB.out.cell (World.block_lt_of_cell? w _ hx130_8)).trans hx130_8
                  replace hx130_9 := (HB.out.cell (World.block_lt_of_cell? w _ hx130_9)).trans hx130_9
                  replace hx130_10 := (HB.out.cell (World.block_lt_of_cell? w _ hx130_10)).trans hx130_10
                  have HR130_4 := Aside0.mk hi130_4
                  have HC130_4 := Aside0.mk hl130_4
                  clear hi130_4 hl130_4
                  have HR130_8 := Aside0.mk hi130_8
                  have HC130_8 := Aside0.mk hl130_8
                  clear hi130_8 hl130_8
                  have HR130_9 := Aside0.mk hi130_9
                  have HC130_9 := Aside0.mk hl130_9
                  clear hi130_9 hl130_9
                  replace p130 := eq_true p130
                  replace q130 := eq_true q130
                  go_wp2_with (first | ((with_reducible refine gate_callee (f := 9) rfl ?_); refine goesL_ (some 42) rfl rfl Try.func9 (by kernel_rfl) rfl #[] rfl (by (try simp only [List.map_toArray, List.map_cons, List.map_nil]); first | done | rfl | (simp only [List.length_drop, List.length_take]; rfl)) ?_; (with_reducible refine (interregnumlaw15_answers.calls  t131 _ A18.out).mono ?_); rintro e w19 ⟨rfl, hb⟩; refine ⟨_, rfl, ?_⟩; have n0_ := Aside0.mk (below_step (by repeat (first | (with_reducible first | exact HB.out | apply below_alloc | apply pw_below_drewN | apply below_drew1) | exact HB.out)) hb); clear HB; have HB := n0_; clear n0_; (try clear hb); (try clear hb2); (try clear hk); (try clear hi)))
                  go_ret
                  exact ⟨by first | rfl | (simp [errW_none, errW_some] <;> rfl) | (simp [*, errW_none, errW_some] <;> rfl), by repeat (first | (with_reducible first | exact HB.out | apply below_alloc | apply pw_below_drewN | apply below_drew1) | exact HB.out)⟩
                · rw [if_neg c17] at H
                  have c17b0 : decide (0 < ((rd_T41 l2 x9_2).f2.f3)) = false := decide_eq_false c17
                  clear c17
                  have H' := Aside0.mk H
                  clear H
                  have p130 : 0 ≤ (x9_2 : Int) := of_decide_eq_true (by first | (with_reducible assumption) | assumption)
                  have q130 : x9_2 < (l2.length : Int) := of_decide_eq_true (by first | (with_reducible assumption) | assumption)
                  obtain ⟨ad130, A130_4, c130_4, A130_8, c130_8, A130_9, c130_9, e130, hx130_0, hx130_1, hx130_2, hx130_3, hx130_4, hx130_5, hx130_6, hx130_7, hx130_8, hx130_9, hx130_10, hl130_4, hi130_4, hl130_8, hi130_8, hl130_9, hi130_9⟩ := at_T41 HR2.out x9_2 p130 q130
                  cases e130
                  replace hx130_0 := (HB.out.cell (World.block_lt_of_cell? w _ hx130_0)).trans hx130_0
                  replace hx130_1 := (HB.out.cell (World.block_lt_of_cell? w _ hx130_1)).trans hx130_1
                  replace hx130_2 := (HB.out.cell (World.block_lt_of_cell? w _ hx130_2)).trans hx130_2
                  replace hx130_3 := (HB.out.cell (World.block_lt_of_cell? w _ hx130_3)).trans hx130_3
                  replace hx130_4 := (HB.out.cell (World.block_lt_of_cell? w _ hx130_4)).trans hx130_4
                  replace hx130_5 := (HB.out.cell (World.block_lt_of_cell? w _ hx130_5)).trans hx130_5
                  replace hx130_6 := (HB.out.cell (World.block_lt_of_cell? w _ hx130_6)).trans hx130_6
                  replace hx130_7 := (HB.out.cell (World.block_lt_of_cell? w _ hx130_7)).trans hx130_7
                  replace hx130_8 := (HB.out.cell (World.block_lt_of_cell? w _ hx130_8)).trans hx130_8
                  replace hx130_9 := (HB.out.cell (World.block_lt_of_cell? w _ hx130_9)).trans hx130_9
                  replace hx130_10 := (HB.out.cell (World.block_lt_of_cell? w _ hx130_10)).trans hx130_10
                  have HR130_4 := Aside0.mk hi130_4
                  have HC130_4 := Aside0.mk hl130_4
                  clear hi130_4 hl130_4
                  have HR130_8 := Aside0.mk hi130_8
                  have HC130_8 := Aside0.mk hl130_8
                  clear hi130_8 hl130_8
                  have HR130_9 := Aside0.mk hi130_9
                  have HC130_9 := Aside0.mk hl130_9
                  clear hi130_9 hl130_9
                  replace p130 := eq_true p130
                  replace q130 := eq_true q130
                  go_wp2
                  go_roundg k2
                  case measure => have := HJ4.out; have := HK2.out; omega
                  case rel => exact ⟨(wrap64 (x9_2 + 1)), (by first | rfl | (simp; done) | (simp [*]; done)), H', ⟨by have := HJ4.out; have := HK2.out; omega⟩, ⟨by repeat (first | (with_reducible first | exact HB.out | apply below_alloc | apply pw_below_drewN | apply below_drew1) | exact HB.out)⟩⟩
              · rw [if_neg c16] at H
                exact absurd H (by simp)
            · rw [if_neg c15] at H
              have c15b0 : decide (x9_2 < (l2.length : Int)) = false := decide_eq_false c15
              clear c15
              replace H := Option.bind_eq_some_iff.mp H
              obtain ⟨⟨t132, t133⟩, A200, H⟩ := H
              replace H : (if (l2.length : Int) = 0 then (none) else (if (Int.tmod (wrap64 (a3)) (l2.length : Int)) = t132 then ((interregnumlaw15_answers.f).bind fun t134 => (some t134)) else ((some (([] : List (S41)) : List (S41))).bind fun y135 => (if 0 ≤ (Int.tmod (wrap64 (a3)) (l2.length : Int)) then (if (Int.tmod (wrap64 (a3)) (l2.length : Int)) ≤ (l2.length : Int) then ((some (l2.take ((Int.tmod (wrap64 (a3)) (l2.length : Int)) : Int).toNat : List (S41))).bind fun y138 => (if y135.length + y138.length < 1034834473200 then ((some (y135 ++ y138 : List (S41))).bind fun y142 => (if 0 ≤ (wrap64 ((Int.tmod (wrap64 (a3)) (l2.length : Int)) + 1)) then (if (wrap64 ((Int.tmod (wrap64 (a3)) (l2.length : Int)) + 1)) ≤ (l2.length : Int) then ((some (l2.drop ((wrap64 ((Int.tmod (wrap64 (a3)) (l2.length : Int)) + 1)) : Int).toNat : List (S41))).bind fun y145 => (if y142.length + y145.length < 1034834473200 then ((decide_Best.f a0 l1 (y142 ++ y145)).bind fun bt152 => (if (Int.tmod (wrap64 (a3)) (l2.length : Int)) < t132 then (interregnumlaw15_DecideLess.j2 k2 t132 t133 (wrap64 (bt152.1 + 1)) bt152.2) else (interregnumlaw15_DecideLess.j2 k2 t132 t133 bt152.1 bt152.2))) else (none))) else (none)) else (none))) else (none))) else (none)) else (none))))) = some r := H
              have A20 := Aside0.mk A200
              clear A200
              by_cases c21 : (l2.length : Int) = 0
              · rw [if_pos c21] at H
                exact absurd H (by simp)
              · rw [if_neg c21] at H
                have c21b0 : ((l2.length : Int) == 0) = false := beq_eq_false_iff_ne.mpr c21
                have c21b1 : ((l2.length : Int) != 0) = true := bne_iff_ne.mpr c21
                have c21b2 : ¬ (l2 = []) := fun h_ => c21 (by rw [h_]; rfl)
                by_cases c22 : (Int.tmod (wrap64 (a3)) (l2.length : Int)) = t132
                · rw [if_pos c22] at H
                  have c22b0 : ((Int.tmod (wrap64 (a3)) (l2.length : Int)) == t132) = true := beq_iff_eq.mpr c22
                  have c22b1 : ((Int.tmod (wrap64 (a3)) (l2.length : Int)) != t132) = false := bne_eq_false_iff_eq.mpr c22
                  clear c22
                  replace H := Option.bind_eq_some_iff.mp H
                  obtain ⟨t134, A230, H⟩ := H
                  replace H : (some t134) = some r := H
                  have A23 := Aside0.mk A230
                  clear A230
                  obtain rfl := Option.some.inj H
                  go_wp2_with (first | ((with_reducible refine gate_callee (f := 10) rfl ?_); refine goesL_ (some 47) rfl rfl Try.func10 (by kernel_rfl) rfl #[.int .i64 a0, .slice A1 l1.length c1, .slice A2 l2.length c2] rfl (by (try simp only [List.map_toArray, List.map_cons, List.map_nil]); first | done | rfl | (simp only [List.length_drop, List.length_take]; rfl)) ?_; (with_reducible refine (decide_Best.calls a0 _ _ l1 _ _ l2 t132 t133 _ ?side1 ?side2 ?side3 ?side4 A20.out).mono ?_); (case side1 => repeat (first | exact (Kd.C_below HR1.out HB.out) | (with_reducible refine Kd.C_alloc ?_ _) | (with_reducible refine Kd.C_drewN ?_ _) | (with_reducible refine Kd.C_drew ?_))); (case side2 => exact HC1.out); (case side3 => repeat (first | exact (Kd.C_below HR2.out HB.out) | (with_reducible refine Kd.C_alloc ?_ _) | (with_reducible refine Kd.C_drewN ?_ _) | (with_reducible refine Kd.C_drew ?_))); (case side4 => exact HC2.out); rintro e w24 ⟨rfl, hb⟩; refine ⟨_, rfl, ?_⟩; have n0_ := Aside0.mk (below_step (by repeat (first | (with_reducible first | exact HB.out | apply below_alloc | apply pw_below_drewN | apply below_drew1) | exact HB.out)) hb); clear HB; have HB := n0_; clear n0_; (try clear hb); (try clear hb2); (try clear hk); (try clear hi)) | ((with_reducible refine gate_callee (f := 9) rfl ?_); refine goesL_ (some 58) rfl rfl Try.func9 (by kernel_rfl) rfl #[] rfl (by (try simp only [List.map_toArray, List.map_cons, List.map_nil]); first | done | rfl | (simp only [List.length_drop, List.length_take]; rfl)) ?_; (with_reducible refine (interregnumlaw15_answers.calls  t134 _ A23.out).mono ?_); rintro e w25 ⟨rfl, hb⟩; refine ⟨_, rfl, ?_⟩; have n0_ := Aside0.mk (below_step (by repeat (first | (with_reducible first | exact HB.out | apply below_alloc | apply pw_below_drewN | apply below_drew1) | exact HB.out)) hb); clear HB; have HB := n0_; clear n0_; (try clear hb); (try clear hb2); (try clear hk); (try clear hi)))
                  go_ret
                  exact ⟨by first | rfl | (simp [errW_none, errW_some] <;> rfl) | (simp [*, errW_none, errW_some] <;> rfl), by repeat (first | (with_reducible first | exact HB.out | apply below_alloc | apply pw_below_drewN | apply below_drew1) | exact HB.out)⟩
                · rw [if_neg c22] at H
                  have c22b0 : ((Int.tmod (wrap64 (a3)) (l2.length : Int)) == t132) = false := beq_eq_false_iff_ne.mpr c22
                  have c22b1 : ((Int.tmod (wrap64 (a3)) (l2.length : Int)) != t132) = true := bne_iff_ne.mpr c22
                  obtain ⟨y135, hy135⟩ : ∃ y_ : List (S41), y_ = (([] : List (S41))) := ⟨_, rfl⟩
                  replace H : (if 0 ≤ (Int.tmod (wrap64 (a3)) (l2.length : Int)) then (if (Int.tmod (wrap64 (a3)) (l2.length : Int)) ≤ (l2.length : Int) then ((some (l2.take ((Int.tmod (wrap64 (a3)) (l2.length : Int)) : Int).toNat : List (S41))).bind fun y138 => (if y135.length + y138.length < 1034834473200 then ((some (y135 ++ y138 : List (S41))).bind fun y142 => (if 0 ≤ (wrap64 ((Int.tmod (wrap64 (a3)) (l2.length : Int)) + 1)) then (if (wrap64 ((Int.tmod (wrap64 (a3)) (l2.length : Int)) + 1)) ≤ (l2.length : Int) then ((some (l2.drop ((wrap64 ((Int.tmod (wrap64 (a3)) (l2.length : Int)) + 1)) : Int).toNat : List (S41))).bind fun y145 => (if y142.length + y145.length < 1034834473200 then ((decide_Best.f a0 l1 (y142 ++ y145)).bind fun bt152 => (if (Int.tmod (wrap64 (a3)) (l2.length : Int)) < t132 then (interregnumlaw15_DecideLess.j2 k2 t132 t133 (wrap64 (bt152.1 + 1)) bt152.2) else (interregnumlaw15_DecideLess.j2 k2 t132 t133 bt152.1 bt152.2))) else (none))) else (none)) else (none))) else (none))) else (none)) else (none)) = some r := by first | (rw [hy135]; with_reducible exact H) | (have H2_ := (Option.bind_some _ _).symm.trans H; rw [hy135]; with_reducible exact H2_) | (have H2_ := (Option.bind_some _ _).symm.trans H; with_reducible exact H2_) | with_reducible exact H | (rw [hy135]; exact H) | exact H
                  have Ny135 := Aside0.mk hy135
                  clear hy135
                  obtain ⟨ji26, hji26⟩ : ∃ j_ : Int, (Int.tmod (wrap64 (a3)) (l2.length : Int)) = j_ := ⟨_, rfl⟩
                  replace H : (if 0 ≤ (ji26) then (if (ji26) ≤ (l2.length : Int) then ((some (l2.take ((ji26) : Int).toNat : List (S41))).bind fun y138 => (if y135.length + y138.length < 1034834473200 then ((some (y135 ++ y138 : List (S41))).bind fun y142 => (if 0 ≤ (wrap64 ((ji26) + 1)) then (if (wrap64 ((ji26) + 1)) ≤ (l2.length : Int) then ((some (l2.drop ((wrap64 ((ji26) + 1)) : Int).toNat : List (S41))).bind fun y145 => (if y142.length + y145.length < 1034834473200 then ((decide_Best.f a0 l1 (y142 ++ y145)).bind fun bt152 => (if (ji26) < t132 then (interregnumlaw15_DecideLess.j2 k2 t132 t133 (wrap64 (bt152.1 + 1)) bt152.2) else (interregnumlaw15_DecideLess.j2 k2 t132 t133 bt152.1 bt152.2))) else (none))) else (none)) else (none))) else (none))) else (none)) else (none)) = some r := by first | (rw [hji26] at H; exact H) | (simp only [hji26] at H ⊢; exact H)
                  (try rw [hji26] at c22b0)
                  (try rw [hji26] at c22b1)
                  (try rw [hji26] at A20)
                  by_cases c27 : 0 ≤ (ji26)
                  · rw [if_pos c27] at H
                    have c27b0 := eq_true c27
                    have c27b1 : decide (0 ≤ (ji26)) = true := decide_eq_true c27
                    clear c27
                    by_cases c28 : (ji26) ≤ (l2.length : Int)
                    · rw [if_pos c28] at H
                      have c28b0 := eq_true c28
                      have c28b1 : decide ((ji26) ≤ (l2.length : Int)) = true := decide_eq_true c28
                      clear c28
                      obtain ⟨y138, hy138⟩ : ∃ y_ : List (S41), y_ = (l2.take ((ji26) : Int).toNat) := ⟨_, rfl⟩
                      replace H : (if y135.length + y138.length < 1034834473200 then ((some (y135 ++ y138 : List (S41))).bind fun y142 => (if 0 ≤ (wrap64 ((ji26) + 1)) then (if (wrap64 ((ji26) + 1)) ≤ (l2.length : Int) then ((some (l2.drop ((wrap64 ((ji26) + 1)) : Int).toNat : List (S41))).bind fun y145 => (if y142.length + y145.length < 1034834473200 then ((decide_Best.f a0 l1 (y142 ++ y145)).bind fun bt152 => (if (ji26) < t132 then (interregnumlaw15_DecideLess.j2 k2 t132 t133 (wrap64 (bt152.1 + 1)) bt152.2) else (interregnumlaw15_DecideLess.j2 k2 t132 t133 bt152.1 bt152.2))) else (none))) else (none)) else (none))) else (none)) = some r := by first | (rw [hy138]; with_reducible exact H) | (have H2_ := (Option.bind_some _ _).symm.trans H; rw [hy138]; with_reducible exact H2_) | (have H2_ := (Option.bind_some _ _).symm.trans H; with_reducible exact H2_) | with_reducible exact H | (rw [hy138]; exact H) | exact H
                      have Ny138 := Aside0.mk hy138
                      clear hy138
                      by_cases c29 : y135.length + y138.length < 1034834473200
                      · rw [if_pos c29] at H
                        have LMc29 := Aside0.mk c29
                        clear c29
                        obtain ⟨y142, hy142⟩ : ∃ y_ : List (S41), y_ = (y135 ++ y138) := ⟨_, rfl⟩
                        replace H : (if 0 ≤ (wrap64 ((ji26) + 1)) then (if (wrap64 ((ji26) + 1)) ≤ (l2.length : Int) then ((some (l2.drop ((wrap64 ((ji26) + 1)) : Int).toNat : List (S41))).bind fun y145 => (if y142.length + y145.length < 1034834473200 then ((decide_Best.f a0 l1 (y142 ++ y145)).bind fun bt152 => (if (ji26) < t132 then (interregnumlaw15_DecideLess.j2 k2 t132 t133 (wrap64 (bt152.1 + 1)) bt152.2) else (interregnumlaw15_DecideLess.j2 k2 t132 t133 bt152.1 bt152.2))) else (none))) else (none)) else (none)) = some r := by first | (rw [hy142]; with_reducible exact H) | (have H2_ := (Option.bind_some _ _).symm.trans H; rw [hy142]; with_reducible exact H2_) | (have H2_ := (Option.bind_some _ _).symm.trans H; with_reducible exact H2_) | with_reducible exact H | (rw [hy142]; exact H) | exact H
                        have Ny142 := Aside0.mk hy142
                        clear hy142
                        obtain ⟨ji30, hji30⟩ : ∃ j_ : Int, (wrap64 ((ji26) + 1)) = j_ := ⟨_, rfl⟩
                        replace H : (if 0 ≤ (ji30) then (if (ji30) ≤ (l2.length : Int) then ((some (l2.drop ((ji30) : Int).toNat : List (S41))).bind fun y145 => (if y142.length + y145.length < 1034834473200 then ((decide_Best.f a0 l1 (y142 ++ y145)).bind fun bt152 => (if (ji26) < t132 then (interregnumlaw15_DecideLess.j2 k2 t132 t133 (wrap64 (bt152.1 + 1)) bt152.2) else (interregnumlaw15_DecideLess.j2 k2 t132 t133 bt152.1 bt152.2))) else (none))) else (none)) else (none)) = some r := by first | (rw [hji30] at H; exact H) | (simp only [hji30] at H ⊢; exact H)
                        (try rw [hji30] at A20)
                        have hji30w : (IntKind.i64.wrap ((ji26) + 1)) = ji30 := (i64_w _).trans hji30
                        by_cases c31 : 0 ≤ (ji30)
                        · rw [if_pos c31] at H
                          have c31b0 := eq_true c31
                          have c31b1 : decide (0 ≤ (ji30)) = true := decide_eq_true c31
                          clear c31
                          by_cases c32 : (ji30) ≤ (l2.length : Int)
                          · rw [if_pos c32] at H
                            have c32b0 := eq_true c32
                            have c32b1 : decide ((ji30) ≤ (l2.length : Int)) = true := decide_eq_true c32
                            clear c32
                            obtain ⟨y145, hy145⟩ : ∃ y_ : List (S41), y_ = (l2.drop ((ji30) : Int).toNat) := ⟨_, rfl⟩
                            replace H : (if y142.length + y145.length < 1034834473200 then ((decide_Best.f a0 l1 (y142 ++ y145)).bind fun bt152 => (if (ji26) < t132 then (interregnumlaw15_DecideLess.j2 k2 t132 t133 (wrap64 (bt152.1 + 1)) bt152.2) else (interregnumlaw15_DecideLess.j2 k2 t132 t133 bt152.1 bt152.2))) else (none)) = some r := by first | (rw [hy145]; with_reducible exact H) | (have H2_ := (Option.bind_some _ _).symm.trans H; rw [hy145]; with_reducible exact H2_) | (have H2_ := (Option.bind_some _ _).symm.trans H; with_reducible exact H2_) | with_reducible exact H | (rw [hy145]; exact H) | exact H
                            have Ny145 := Aside0.mk hy145
                            clear hy145
                            by_cases c33 : y142.length + y145.length < 1034834473200
                            · rw [if_pos c33] at H
                              have LMc33 := Aside0.mk c33
                              clear c33
                              obtain ⟨y149, hy149⟩ : ∃ y_ : List (S41), y_ = (y142 ++ y145) := ⟨_, rfl⟩
                              replace H : ((decide_Best.f a0 l1 y149).bind fun bt152 => (if (ji26) < t132 then (interregnumlaw15_DecideLess.j2 k2 t132 t133 (wrap64 (bt152.1 + 1)) bt152.2) else (interregnumlaw15_DecideLess.j2 k2 t132 t133 bt152.1 bt152.2))) = some r := by first | (rw [hy149]; with_reducible exact H) | (have H2_ := (Option.bind_some _ _).symm.trans H; rw [hy149]; with_reducible exact H2_) | (have H2_ := (Option.bind_some _ _).symm.trans H; with_reducible exact H2_) | with_reducible exact H | (rw [hy149]; exact H) | exact H
                              have Ny149 := Aside0.mk hy149
                              clear hy149
                              replace H := Option.bind_eq_some_iff.mp H
                              obtain ⟨⟨t152, t153⟩, A340, H⟩ := H
                              replace H : (if (ji26) < t132 then (interregnumlaw15_DecideLess.j2 k2 t132 t133 (wrap64 (t152 + 1)) t153) else (interregnumlaw15_DecideLess.j2 k2 t132 t133 t152 t153)) = some r := H
                              have A34 := Aside0.mk A340
                              clear A340
                              have HC35 := Aside0.mk H
                              clear H
                              try go_wp2_with (first | ((with_reducible refine gate_callee (f := 10) rfl ?_); refine goesL_ (some 47) rfl rfl Try.func10 (by kernel_rfl) rfl #[.int .i64 a0, .slice A1 l1.length c1, .slice A2 l2.length c2] rfl (by (try simp only [List.map_toArray, List.map_cons, List.map_nil]); first | done | rfl | (simp only [List.length_drop, List.length_take]; rfl)) ?_; (with_reducible refine (decide_Best.calls a0 _ _ l1 _ _ l2 t132 t133 _ ?side1 ?side2 ?side3 ?side4 A20.out).mono ?_); (case side1 => repeat (first | exact (Kd.C_below HR1.out HB.out) | (with_reducible refine Kd.C_alloc ?_ _) | (with_reducible refine Kd.C_drewN ?_ _) | (with_reducible refine Kd.C_drew ?_))); (case side2 => exact HC1.out); (case side3 => repeat (first | exact (Kd.C_below HR2.out HB.out) | (with_reducible refine Kd.C_alloc ?_ _) | (with_reducible refine Kd.C_drewN ?_ _) | (with_reducible refine Kd.C_drew ?_))); (case side4 => exact HC2.out); rintro e w36 ⟨rfl, hb⟩; refine ⟨_, rfl, ?_⟩; have n0_ := Aside0.mk (below_step (by repeat (first | (with_reducible first | exact HB.out | apply below_alloc | apply pw_below_drewN | apply below_drew1) | exact HB.out)) hb); clear HB; have HB := n0_; clear n0_; (try clear hb); (try clear hb2); (try clear hk); (try clear hi)))
                              have n0_ := Aside0.mk (below_drew1 HB.out)
                              clear HB
                              have HB := n0_
                              clear n0_
                              have q38 : ((ji26) : Int) ≤ ((l2.length : Int) : Int) := of_decide_eq_true (by first | (with_reducible assumption) | assumption)
                              obtain ⟨i038, hi038, _, hsz38, _⟩ := info_parts info41
                              have hroom38 : l2.length ≤ c2 := HC2.out
                              have hC38 : Kd.C k41 _ A2 l2.length l2 := HR2.out
                              have hcut38 := cut_to (P := Try.prog) 23 41 .i64 Try.underlying23 hi038 A2 l2.length c2 (ji26) (of_decide_eq_true (by first | (with_reducible assumption) | assumption)) q38 hroom38
                              have hr38 := Kd.C_take (m := ((ji26) : Int).toNat) hC38 (by omega)
                              have hy38 : y138.length = ((ji26) : Int).toNat := (by rw [Ny138.out, List.length_take]; omega)
                              rw [← Ny138.out] at hr38
                              rw [← hy38] at hcut38
                              have HR141 := Aside0.mk hr38
                              have HC141 := Aside0.mk (show y138.length ≤ c2 from by omega)
                              clear hr38 hC38 hroom38 hi038 hsz38
                              have KY38 := Aside0.mk hy38
                              clear hy38
                              replace q38 := eq_true q38
                              have q39 : ((ji30) : Int) ≤ ((l2.length : Int) : Int) := of_decide_eq_true (by first | (with_reducible assumption) | assumption)
                              obtain ⟨i039, hi039, _, hsz39, _⟩ := info_parts info41
                              have hroom39 : l2.length ≤ c2 := HC2.out
                              have hC39 : Kd.C k41 _ A2 l2.length l2 := HR2.out
                              have q039 : (0 : Int) ≤ ((ji30) : Int) := of_decide_eq_true (by first | (with_reducible assumption) | assumption)
                              have hcut39 := cut_from (P := Try.prog) 23 41 .i64 Try.underlying23 hi039 11 hsz39 A2 l2.length c2 (ji30) q039 q39
                              have hr39 := Kd.C_drop (m := ((ji30) : Int).toNat) (c := c2) hC39 (by omega) hroom39
                              obtain ⟨A39, hA39⟩ : ∃ A1, A1 = (if c2 = ((ji30) : Int).toNat then A2 else (A2 : Option Addr).map (·.add (((ji30) : Int).toNat * 11))) := ⟨_, rfl⟩
                              obtain ⟨c39, hc39⟩ : ∃ c1, c1 = c2 - ((ji30) : Int).toNat := ⟨_, rfl⟩
                              have hy39 : y145.length = l2.length - ((ji30) : Int).toNat := (by rw [Ny145.out, List.length_drop] <;> omega)
                              rw [show (l2).drop ((ji30) : Int).toNat = y145 from Ny145.out.symm] at hr39
                              replace hr39 : Kd.C k41 _ A39 y145.length y145 := (by rw [hA39]; exact hr39)
                              rw [← hy39, ← hA39, ← hc39] at hcut39
                              have HR148 := Aside0.mk hr39
                              have HC148 := Aside0.mk (show y145.length ≤ c39 from by rw [hy39, hc39]; exact Nat.sub_le_sub_right hroom39 _)
                              clear hr39 hC39 hroom39 hi039 hsz39 hc39
                              have KY39 := Aside0.mk hy39
                              have KA39 := Aside0.mk hA39
                              clear hy39 hA39
                              replace q39 := eq_true q39
                              refine start_ (n := 18) (S := fun w' => True) (ds := []) #[false, false, false, false, false, false, false, false, false, false, false, false, false, false, false, false, false, false] (by kernel_rfl) rfl rfl trivial (fun hHeld => ?_); refine with_tabW interregnumlaw15_DecideLess.tab12 interregnumlaw15_DecideLess.bits12 (fun HT_ HW_ => ?_)
                              generalize w36.drew = w37 at HB HR141 HR148 hHeld ⊢
                              refine pure_ (i := 0) (N := some 60) (v := ?_) (a' := ?_) #[true, false, false, false, false, false, false, false, false, false, false, false, false, false, false, false, false, false] rfl rfl (any_of HT_.out (by kernel_rfl)) (fun _ _ _ h => h) (Or.inl ⟨by rfl, ?_⟩) ?_ ?_
                              rotate_left
                              · intro w'
                                go_simp
                                with_reducible rfl
                              rotate_left
                              · simp only [Act.put, List.setIfInBounds_toArray, List.set_cons_zero, List.set_cons_succ, i64_w, i32_w]
                                rfl
                              refine pure_ (i := 1) (N := some 61) (v := ?_) (a' := ?_) #[true, true, false, false, false, false, false, false, false, false, false, false, false, false, false, false, false, false] rfl rfl (any_of HT_.out (by kernel_rfl)) (fun _ _ _ h => h) (Or.inl ⟨by rfl, ?_⟩) ?_ ?_
                              rotate_left
                              · intro w'
                                go_simp
                                with_reducible rfl
                              rotate_left
                              · simp only [Act.put, List.setIfInBounds_toArray, List.set_cons_zero, List.set_cons_succ, i64_w, i32_w]
                                rfl
                              refine pure_ (i := 3) (N := some 63) (v := ?_) (a' := ?_) #[true, true, false, true, false, false, false, false, false, false, false, false, false, false, false, false, false, false] rfl rfl (any_of HT_.out (by kernel_rfl)) (fun _ _ _ h => h) (Or.inl ⟨by rfl, ?_⟩) ?_ ?_
                              rotate_left
                              · intro w'
                                go_simp
                                with_reducible rfl
                              rotate_left
                              · simp only [Act.put, List.setIfInBounds_toArray, List.set_cons_zero, List.set_cons_succ, i64_w, i32_w]
                                rfl
                              refine pure_ (i := 4) (N := some 64) (v := ?_) (a' := ?_) #[true, true, false, true, true, false, false, false, false, false, false, false, false, false, false, false, false, false] rfl rfl (any_of HT_.out (by kernel_rfl)) (fun _ _ _ h => h) (Or.inl ⟨by rfl, ?_⟩) ?_ ?_
                              rotate_left
                              · intro w'
                                go_simp
                                with_reducible rfl
                              rotate_left
                              · simp only [Act.put, List.setIfInBounds_toArray, List.set_cons_zero, List.set_cons_succ, i64_w, i32_w]
                                rfl
                              refine pure_ (i := 5) (N := some 65) (v := ?_) (a' := ?_) #[true, true, false, true, true, true, false, false, false, false, false, false, false, false, false, false, false, false] rfl rfl (any_of HT_.out (by kernel_rfl)) (fun _ _ _ h => h) (Or.inl ⟨by rfl, ?_⟩) ?_ ?_
                              rotate_left
                              · intro w'
                                go_simp
                                with_reducible rfl
                              rotate_left
                              · simp only [Act.put, List.setIfInBounds_toArray, List.set_cons_zero, List.set_cons_succ, i64_w, i32_w]
                                rfl
                              refine pure_ (i := 7) (N := some 67) (v := ?_) (a' := ?_) #[true, true, false, true, true, true, false, true, false, false, false, false, false, false, false, false, false, false] rfl rfl (any_of HT_.out (by kernel_rfl)) (fun _ _ _ h => h) (Or.inl ⟨by rfl, ?_⟩) ?_ ?_
                              rotate_left
                              · intro w'
                                go_simp
                                with_reducible rfl
                              rotate_left
                              · simp only [Act.put, List.setIfInBounds_toArray, List.set_cons_zero, List.set_cons_succ, i64_w, i32_w]
                                rfl
                              refine pure_ (i := 8) (N := some 68) (v := ?_) (a' := ?_) #[true, true, false, true, true, true, false, true, true, false, false, false, false, false, false, false, false, false] rfl rfl (any_of HT_.out (by kernel_rfl)) (fun _ _ _ h => h) (Or.inl ⟨by rfl, ?_⟩) ?_ ?_
                              rotate_left
                              · intro w'
                                go_simp
                                with_reducible rfl
                              rotate_left
                              · simp only [Act.put, List.setIfInBounds_toArray, List.set_cons_zero, List.set_cons_succ, i64_w, i32_w]
                                rfl
                              refine pure_ (i := 9) (N := some 69) (v := ?_) (a' := ?_) #[true, true, false, true, true, true, false, true, true, true, false, false, false, false, false, false, false, false] rfl rfl (any_of HT_.out (by kernel_rfl)) (fun _ _ _ h => h) (Or.inl ⟨by rfl, ?_⟩) ?_ ?_
                              rotate_left
                              · intro w'
                                go_simp
                                with_reducible rfl
                              rotate_left
                              · simp only [Act.put, List.setIfInBounds_toArray, List.set_cons_zero, List.set_cons_succ, i64_w, i32_w]
                                rfl
                              refine pure_ (i := 10) (N := some 70) (v := ?_) (a' := ?_) #[true, true, false, true, true, true, false, true, true, true, true, false, false, false, false, false, false, false] rfl rfl (any_of HT_.out (by kernel_rfl)) (fun _ _ _ h => h) (Or.inl ⟨by rfl, ?_⟩) ?_ ?_
                              rotate_left
                              · intro w'
                                go_simp
                                with_reducible rfl
                              rotate_left
                              · simp only [Act.put, List.setIfInBounds_toArray, List.set_cons_zero, List.set_cons_succ, i64_w, i32_w]
                                rfl
                              refine one_ (i := 2) (N := some 62) #[true, true, true, true, true, true, false, true, true, true, true, false, false, false, false, false, false, false] rfl rfl (one_of HT_.out (by kernel_rfl)) (by decide) (fun K hK => ?_)
                              refine Kd.N_lit_step k41 _ 41 ?hg (N' := 62) ?hd (xs := ([] : List (S41))) (inner := []) (ok := (fun _ => True)) (okp := (fun _ => True)) ?hr ?hp (fun _ hk => hk) ((show ∀ k_, w37.heap.size ≤ k_ → (fun _ => True) k_ from fun k_ hk => trivial) _ (Nat.le_refl _)) (Below.refl _ _) (Nat.le_refl _) (by simp) ?_; (case hd => rfl); (case hg => rfl); (case hr => first | (go_simp; done) | (go_simp; rfl) | (go_simp; simp [IntKind.wrap_u8, IntKind.wrap_u32]; done)); (case hp => exact (Reps.none _ _))
                              intro v136 w40 ho41 hb hg_ hnew_
                              clear hg_ hnew_
                              (first | rw [← Ny135.out] at ho41 | (simp only [Int.reduceToNat] at ho41; rw [← Ny135.out] at ho41))
                              have n0_ := Aside0.mk (Kd.N_lower ho41 (below_size (by repeat (first | (with_reducible first | exact HB.out | apply below_alloc | apply pw_below_drewN | apply below_drew1) | exact HB.out))))
                              have n1_ := Aside0.mk (below_step (by repeat (first | (with_reducible first | exact HB.out | apply below_alloc | apply pw_below_drewN | apply below_drew1) | exact HB.out)) hb)
                              clear HB
                              have HO137 := n0_
                              have HB := n1_
                              clear n0_ n1_
                              clear hb ho41
                              refine hK.out _ _ trivial (fun hHeld => ?_)
                              clear hK K
                              refine norm_ (a' := ?_) ?_ ?_
                              rotate_left
                              · show Act.put _ (some 62) _ = _
                                simp only [Act.put, List.setIfInBounds_toArray, List.set_cons_zero, List.set_cons_succ, i64_w, i32_w]
                                rfl
                              refine one_ (i := 6) (N := some 66) #[true, true, true, true, true, true, true, true, true, true, true, false, false, false, false, false, false, false] rfl rfl (one_of HT_.out (by kernel_rfl)) (by decide) (fun K hK => ?_)
                              refine Kd.N_append_rows_step k41 (w0 := w) w.heap.size (by rfl) (.tmp 62) (.tmp 65) 23 41 (.agg #[(.int .u32 0), (.int .i64 0), (.int .i64 0), (.int .i64 0), (.slice none 0 0), (.int .u32 0), (.int .i64 0), (.int .i64 0), (.slice none 0 0), (.slice none 0 0), (.int .i64 0)]) 136 rfl Try.underlying23 info41 rfl (by decide) (by omega) v136 y135 y138 _ _ _ (fun _ => True) (fun k_ => ((fun _ => True)) k_ ∧ some k_ ≠ (v136 : Value).ownBlock) rfl rfl ?aO ?aR (fun _ hk => hk) ?aF ?aB ?aS ?aL ?_
                              (case aR => exact (Kd.F_mono (ok' := (fun k_ => ((fun _ => True)) k_ ∧ some k_ ≠ (v136 : Value).ownBlock)) (Kd.F_below (Kd.C_F k41_heap HR141.out) (by repeat (first | (with_reducible first | exact HB.out | apply below_alloc | apply pw_below_drewN | apply below_drew1) | exact HB.out))) (fun k_ hk => ⟨trivial, fun e_ => absurd hk (Nat.not_lt.mpr (Kd.N_base HO137.out k_ e_.symm))⟩)))
                              (case aB => exact (by repeat (first | (with_reducible first | exact HB.out | apply below_alloc | apply pw_below_drewN | apply below_drew1) | exact HB.out)))
                              (case aF => exact (fun _ _ => trivial))
                              (case aO => exact (by (with_reducible repeat (first | apply Kd.N_alloc | apply Kd.N_drewN | apply Kd.N_drew)); exact HO137.out))
                              (case aS => exact (below_size (by repeat (first | (with_reducible first | exact HB.out | apply below_alloc | apply pw_below_drewN | apply below_drew1) | exact HB.out))))
                              (case aL => have := LMc29.out; omega)
                              intro v143 w42 ho hb hg hat
                              rw [← Ny142.out] at ho
                              have n0_ := Aside0.mk (hb)
                              have n1_ := Aside0.mk (ho)
                              clear HB
                              clear HO137
                              have HB := n0_
                              have HO144 := n1_
                              clear n0_ n1_
                              clear ho hb hg hat
                              refine hK.out _ _ trivial (fun hHeld => ?_)
                              clear hK K
                              refine norm_ (a' := ?_) ?_ ?_
                              rotate_left
                              · show Act.put _ (some 66) _ = _
                                simp only [Act.put, List.setIfInBounds_toArray, List.set_cons_zero, List.set_cons_succ, i64_w, i32_w]
                                rfl
                              refine one_ (i := 11) (N := some 71) #[true, true, true, true, true, true, true, true, true, true, true, true, false, false, false, false, false, false] rfl rfl (one_of HT_.out (by kernel_rfl)) (by decide) (fun K hK => ?_)
                              refine Kd.N_append_rows_step k41 (w0 := w) w.heap.size (by rfl) (.tmp 66) (.tmp 70) 23 41 (.agg #[(.int .u32 0), (.int .i64 0), (.int .i64 0), (.int .i64 0), (.slice none 0 0), (.int .u32 0), (.int .i64 0), (.int .i64 0), (.slice none 0 0), (.slice none 0 0), (.int .i64 0)]) 136 rfl Try.underlying23 info41 rfl (by decide) (by omega) v143 y142 y145 _ _ _ (fun _ => True) (fun k_ => ((fun _ => True)) k_ ∧ some k_ ≠ (v143 : Value).ownBlock) rfl rfl ?aO ?aR (fun _ hk => hk) ?aF ?aB ?aS ?aL ?_
                              (case aR => exact (Kd.F_mono (ok' := (fun k_ => ((fun _ => True)) k_ ∧ some k_ ≠ (v143 : Value).ownBlock)) (Kd.F_below (Kd.C_F k41_heap HR148.out) (by repeat (first | (with_reducible first | exact HB.out | apply below_alloc | apply pw_below_drewN | apply below_drew1) | exact HB.out))) (fun k_ hk => ⟨trivial, fun e_ => absurd hk (Nat.not_lt.mpr (Kd.N_base HO144.out k_ e_.symm))⟩)))
                              (case aB => exact (by repeat (first | (with_reducible first | exact HB.out | apply below_alloc | apply pw_below_drewN | apply below_drew1) | exact HB.out)))
                              (case aF => exact (fun _ _ => trivial))
                              (case aO => exact (by (with_reducible repeat (first | apply Kd.N_alloc | apply Kd.N_drewN | apply Kd.N_drew)); exact HO144.out))
                              (case aS => exact (below_size (by repeat (first | (with_reducible first | exact HB.out | apply below_alloc | apply pw_below_drewN | apply below_drew1) | exact HB.out))))
                              (case aL => have := LMc33.out; omega)
                              intro v150 w43 ho hb hg hat
                              rw [← Ny149.out] at ho
                              have n0_ := Aside0.mk (hb)
                              have n1_ := Aside0.mk (ho)
                              clear HB
                              clear HO144
                              have HB := n0_
                              have HO151 := n1_
                              clear n0_ n1_
                              clear ho hb hg hat
                              obtain ⟨Ao44, co44, eo44⟩ := Kd.N_slice HO151.out
                              (first | subst eo44 | (injection eo44 with f1_ f2_ f3_; have f4_ := f1_.symm; have f5_ := f3_.symm; clear f1_ f2_ f3_; subst f4_; subst f5_))
                              refine hK.out _ _ trivial (fun hHeld => ?_)
                              clear hK K
                              refine norm_ (a' := ?_) ?_ ?_
                              rotate_left
                              · show Act.put _ (some 71) _ = _
                                simp only [Act.put, List.setIfInBounds_toArray, List.set_cons_zero, List.set_cons_succ, i64_w, i32_w]
                                rfl
                              refine one_ (i := 12) (N := some 72) #[true, true, true, true, true, true, true, true, true, true, true, true, true, false, false, false, false, false] rfl rfl (one_of HT_.out (by kernel_rfl)) (by decide) (fun K hK => ?_)
                              refine goes_ Try.func10 (by kernel_rfl) rfl #[.int .i64 a0, .slice A1 l1.length c1, .slice Ao44 y149.length co44] (by rfl) rfl rfl (by (try simp only [List.map_toArray, List.map_cons, List.map_nil]); first | done | rfl | (simp only [List.length_drop, List.length_take]; rfl)) ?_
                              with_reducible refine (decide_Best.calls a0 _ _ l1 _ _ y149 t152 t153 _ ?side1 ?side2 ?side3 ?side4 A34.out).mono ?_
                              (case side1 => repeat (first | exact (Kd.C_below HR1.out HB.out) | (with_reducible refine Kd.C_alloc ?_ _) | (with_reducible refine Kd.C_drewN ?_ _) | (with_reducible refine Kd.C_drew ?_)))
                              (case side2 => exact HC1.out)
                              (case side3 => repeat (first | exact (Kd.N_reads' HO151.out).2.2 | (with_reducible refine Kd.C_alloc ?_ _) | (with_reducible refine Kd.C_drewN ?_ _) | (with_reducible refine Kd.C_drew ?_)))
                              (case side4 => exact (Kd.N_reads' HO151.out).2.1)
                              rintro e w45 ⟨rfl, hb⟩
                              refine ⟨_, rfl, ?_⟩
                              have n0_ := Aside0.mk (Kd.N_below (by (with_reducible repeat (first | apply Kd.N_alloc | apply Kd.N_drewN | apply Kd.N_drew)); exact HO151.out) hb)
                              have n1_ := Aside0.mk (below_step (by repeat (first | (with_reducible first | exact HB.out | apply below_alloc | apply pw_below_drewN | apply below_drew1) | exact HB.out)) hb)
                              clear HO151
                              clear HB
                              have HO151 := n0_
                              have HB := n1_
                              clear n0_ n1_
                              (try clear hb)
                              (try clear hb2)
                              (try clear hk)
                              (try clear hi)
                              refine hK.out _ _ trivial (fun hHeld => ?_)
                              clear hK K
                              refine norm_ (a' := ?_) ?_ ?_
                              rotate_left
                              · show Act.put _ (some 72) _ = _
                                simp only [Act.put, List.setIfInBounds_toArray, List.set_cons_zero, List.set_cons_succ, i64_w, i32_w]
                                rfl
                              refine pure_ (i := 13) (N := some 59) (v := ?_) (a' := ?_) #[true, true, true, true, true, true, true, true, true, true, true, true, true, true, false, false, false, false] rfl rfl (any_of HT_.out (by kernel_rfl)) (fun _ _ _ h => h) (Or.inl ⟨by rfl, ?_⟩) ?_ ?_
                              rotate_left
                              · intro w'
                                go_simp
                                with_reducible rfl
                              rotate_left
                              · simp only [Act.put, List.setIfInBounds_toArray, List.set_cons_zero, List.set_cons_succ, i64_w, i32_w]
                                rfl
                              refine pure_ (i := 14) (N := some 73) (v := ?_) (a' := ?_) #[true, true, true, true, true, true, true, true, true, true, true, true, true, true, true, false, false, false] rfl rfl (any_of HT_.out (by kernel_rfl)) (fun _ _ _ h => h) (Or.inl ⟨by rfl, ?_⟩) ?_ ?_
                              rotate_left
                              · intro w'
                                go_simp
                                with_reducible rfl
                              rotate_left
                              · simp only [Act.put, List.setIfInBounds_toArray, List.set_cons_zero, List.set_cons_succ, i64_w, i32_w]
                                rfl
                              refine pure_ (i := 15) (N := some 74) (v := ?_) (a' := ?_) #[true, true, true, true, true, true, true, true, true, true, true, true, true, true, true, true, false, false] rfl rfl (any_of HT_.out (by kernel_rfl)) (fun _ _ _ h => h) (Or.inl ⟨by rfl, ?_⟩) ?_ ?_
                              rotate_left
                              · intro w'
                                go_simp
                                with_reducible rfl
                              rotate_left
                              · simp only [Act.put, List.setIfInBounds_toArray, List.set_cons_zero, List.set_cons_succ, i64_w, i32_w]
                                rfl
                              refine pure_ (i := 16) (N := some 13) (v := ?_) (a' := ?_) #[true, true, true, true, true, true, true, true, true, true, true, true, true, true, true, true, true, false] rfl rfl (any_of HT_.out (by kernel_rfl)) (fun _ _ _ h => h) (Or.inl ⟨by rfl, ?_⟩) ?_ ?_
                              rotate_left
                              · intro w'
                                go_simp
                                with_reducible rfl
                              rotate_left
                              · simp only [Act.put, List.setIfInBounds_toArray, List.set_cons_zero, List.set_cons_succ, i64_w, i32_w]
                                rfl
                              refine pure_ (i := 17) (N := some 14) (v := ?_) (a' := ?_) #[true, true, true, true, true, true, true, true, true, true, true, true, true, true, true, true, true, true] rfl rfl (any_of HT_.out (by kernel_rfl)) (fun _ _ _ h => h) (Or.inl ⟨by rfl, ?_⟩) ?_ ?_
                              rotate_left
                              · intro w'
                                go_simp
                                with_reducible rfl
                              rotate_left
                              · simp only [Act.put, List.setIfInBounds_toArray, List.set_cons_zero, List.set_cons_succ, i64_w, i32_w]
                                rfl
                              refine done_ (done_of HT_.out (by kernel_rfl)) ?_
                              go_upto_if 77 with (fail)
                              go_cut [13] (fun v13 wc => ∃ (kq : Nat) (x13_34 : Int), v13 = .int .i64 x13_34 ∧ Aside0 (interregnumlaw15_DecideLess.j2 kq t132 t133 x13_34 t153 = some r) ∧ Aside0 (kq ≤ k2) ∧ Aside0 (Below w.heap.size w wc))
                              case first =>
                                have H := HC35.out
                                clear HC35
                                by_cases c46 : (ji26) < t132
                                · rw [if_pos c46] at H
                                  have c46b0 : decide ((ji26) < t132) = true := decide_eq_true c46
                                  clear c46
                                  (first | rw [c46b0] | (simp only [i64_w, i32_w]; rw [c46b0]) | skip)
                                  have H' := Aside0.mk H
                                  clear H
                                  go_wp2
                                  go_meet
                                  case rel => exact ⟨_, (wrap64 (t152 + 1)), (by first | rfl | (simp; done) | (simp [*]; done)), H', ⟨by have := HJ4.out; have := HK2.out; first | omega | exact Nat.le_refl _⟩, ⟨by repeat (first | (with_reducible first | exact HB.out | apply below_alloc | apply pw_below_drewN | apply below_drew1) | exact HB.out)⟩⟩
                                · rw [if_neg c46] at H
                                  have c46b0 : decide ((ji26) < t132) = false := decide_eq_false c46
                                  clear c46
                                  (first | rw [c46b0] | (simp only [i64_w, i32_w]; rw [c46b0]) | skip)
                                  have H' := Aside0.mk H
                                  clear H
                                  go_wp2
                                  go_meet
                                  case rel => exact ⟨_, (t152), (by first | rfl | (simp; done) | (simp [*]; done)), H', ⟨by have := HJ4.out; have := HK2.out; first | omega | exact Nat.le_refl _⟩, ⟨by repeat (first | (with_reducible first | exact HB.out | apply below_alloc | apply pw_below_drewN | apply below_drew1) | exact HB.out)⟩⟩
                              case rest =>
                                clear HC35
                                try clear c1
                                try clear p1
                                try clear q1
                                try clear hx1
                                try clear c2
                                try clear p2
                                try clear c3
                                try clear q3
                                try clear c4
                                try clear c5
                                try clear p6
                                try clear c7
                                try clear c8
                                try clear c8b0
                                try clear c8b1
                                try clear c9
                                try clear c10
                                try clear c12
                                try clear c13
                                try clear p13
                                try clear q13
                                try clear hx13
                                try clear c15
                                try clear c15b0
                                try clear c16
                                try clear c16b0
                                try clear c17
                                try clear c17b0
                                try clear c21
                                try clear c21b0
                                try clear c21b1
                                try clear c21b2
                                try clear c22
                                try clear c22b0
                                try clear c22b1
                                try clear c27
                                try clear c27b0
                                try clear c27b1
                                try clear c28
                                try clear c28b0
                                try clear c28b1
                                try clear c29
                                try clear c31
                                try clear c31b0
                                try clear c31b1
                                try clear c32
                                try clear c32b0
                                try clear c32b1
                                try clear c33
                                try clear q38
                                try clear c39
                                try clear q39
                                try clear c46
                                try clear c46b0
                                try clear hx130_0
                                try clear hx130_1
                                try clear hx130_10
                                try clear hx130_2
                                try clear hx130_3
                                try clear hx130_4
                                try clear hx130_5
                                try clear hx130_6
                                try clear hx130_7
                                try clear hx130_8
                                try clear hx130_9
                                try clear p130
                                try clear p2
                                try clear q039
                                try clear q130
                                try clear q38
                                try clear q39
                                obtain ⟨kq, x13_34, rfl, HA, HJ34, HB⟩ := hcut
                                cases kq with
                                | zero => exact absurd HA.out (by simp [interregnumlaw15_DecideLess.j2])
                                | succ kj34 =>
                                  have H := HA.out
                                  clear HA
                                  simp only [interregnumlaw15_DecideLess.j2] at H
                                  replace H := Option.bind_eq_some_iff.mp H
                                  obtain ⟨t154, A470, H⟩ := H
                                  replace H : (if t154 = true then (if (t133 == t153) = true then (if t133 = true then (some (t132 == x13_34)) else (some true)) else (some false)) else (some false)) = some r := H
                                  have A47 := Aside0.mk A470
                                  clear A470
                                  by_cases c48 : t154 = true
                                  · subst c48
                                    have H1 : (if (t133 == t153) = true then (if t133 = true then (some (t132 == x13_34)) else (some true)) else (some false)) = some r := by rw [if_pos rfl] at H; exact H
                                    clear H
                                    have H := H1
                                    clear H1
                                    by_cases c49 : (t133 == t153) = true
                                    · rw [if_pos c49] at H
                                      have c49b0 : (t133 == t153) = true := c49
                                      (try (have c49b1 : decide (t133 = t153) = true := by simpa using c49))
                                      (try (have c49b2 : (t133 == t153) = true := by simpa using c49))
                                      clear c49
                                      by_cases c50 : t133 = true
                                      · subst c50
                                        have H1 : (some (t132 == x13_34)) = some r := by rw [if_pos rfl] at H; exact H
                                        clear H
                                        have H := H1
                                        clear H1
                                        obtain rfl := Option.some.inj H
                                        go_wp2_with (first | ((with_reducible refine gate_callee (f := 9) rfl ?_); refine goesL_ (some 80) rfl rfl Try.func9 (by kernel_rfl) rfl #[] rfl (by (try simp only [List.map_toArray, List.map_cons, List.map_nil]); first | done | rfl | (simp only [List.length_drop, List.length_take]; rfl)) ?_; (with_reducible refine (interregnumlaw15_answers.calls  true _ A47.out).mono ?_); rintro e w51 ⟨rfl, hb⟩; refine ⟨_, rfl, ?_⟩; have n0_ := Aside0.mk (below_step (by repeat (first | (with_reducible first | exact HB.out | apply below_alloc | apply pw_below_drewN | apply below_drew1) | exact HB.out)) hb); clear HB; have HB := n0_; clear n0_; (try clear hb); (try clear hb2); (try clear hk); (try clear hi)))
                                        go_ret
                                        exact ⟨by first | rfl | (simp [errW_none, errW_some] <;> rfl) | (simp only [← hji26, ← hji30]; first | rfl | (simp [errW_none, errW_some] <;> rfl)) | (simp [*, errW_none, errW_some] <;> rfl), by repeat (first | (with_reducible first | exact HB.out | apply below_alloc | apply pw_below_drewN | apply below_drew1) | exact HB.out)⟩
                                      · replace c50 := Bool.eq_false_iff.mpr c50
                                        subst c50
                                        have H1 : (some true) = some r := by rw [if_neg (show ¬ (false = true) by decide)] at H; exact H
                                        clear H
                                        have H := H1
                                        clear H1
                                        obtain rfl := Option.some.inj H
                                        go_wp2_with (first | ((with_reducible refine gate_callee (f := 9) rfl ?_); refine goesL_ (some 80) rfl rfl Try.func9 (by kernel_rfl) rfl #[] rfl (by (try simp only [List.map_toArray, List.map_cons, List.map_nil]); first | done | rfl | (simp only [List.length_drop, List.length_take]; rfl)) ?_; (with_reducible refine (interregnumlaw15_answers.calls  true _ A47.out).mono ?_); rintro e w52 ⟨rfl, hb⟩; refine ⟨_, rfl, ?_⟩; have n0_ := Aside0.mk (below_step (by repeat (first | (with_reducible first | exact HB.out | apply below_alloc | apply pw_below_drewN | apply below_drew1) | exact HB.out)) hb); clear HB; have HB := n0_; clear n0_; (try clear hb); (try clear hb2); (try clear hk); (try clear hi)))
                                        go_ret
                                        exact ⟨by first | rfl | (simp [errW_none, errW_some] <;> rfl) | (simp only [← hji26, ← hji30]; first | rfl | (simp [errW_none, errW_some] <;> rfl)) | (simp [*, errW_none, errW_some] <;> rfl), by repeat (first | (with_reducible first | exact HB.out | apply below_alloc | apply pw_below_drewN | apply below_drew1) | exact HB.out)⟩
                                    · rw [if_neg c49] at H
                                      have c49b0 : (t133 == t153) = false := by simpa using c49
                                      (try (have c49b1 : decide (t133 = t153) = false := by simpa using c49))
                                      (try (have c49b2 : (t133 == t153) = false := by simpa using c49))
                                      (try (have c49b3 : ¬ (t133 = t153) := by simpa using c49))
                                      clear c49
                                      obtain rfl := Option.some.inj H
                                      go_wp2_with (first | ((with_reducible refine gate_callee (f := 9) rfl ?_); refine goesL_ (some 80) rfl rfl Try.func9 (by kernel_rfl) rfl #[] rfl (by (try simp only [List.map_toArray, List.map_cons, List.map_nil]); first | done | rfl | (simp only [List.length_drop, List.length_take]; rfl)) ?_; (with_reducible refine (interregnumlaw15_answers.calls  true _ A47.out).mono ?_); rintro e w53 ⟨rfl, hb⟩; refine ⟨_, rfl, ?_⟩; have n0_ := Aside0.mk (below_step (by repeat (first | (with_reducible first | exact HB.out | apply below_alloc | apply pw_below_drewN | apply below_drew1) | exact HB.out)) hb); clear HB; have HB := n0_; clear n0_; (try clear hb); (try clear hb2); (try clear hk); (try clear hi)))
                                      go_ret
                                      exact ⟨by first | rfl | (simp [errW_none, errW_some] <;> rfl) | (simp only [← hji26, ← hji30]; first | rfl | (simp [errW_none, errW_some] <;> rfl)) | (simp [*, errW_none, errW_some] <;> rfl), by repeat (first | (with_reducible first | exact HB.out | apply below_alloc | apply pw_below_drewN | apply below_drew1) | exact HB.out)⟩
                                  · replace c48 := Bool.eq_false_iff.mpr c48
                                    subst c48
                                    have H1 : (some false) = some r := by rw [if_neg (show ¬ (false = true) by decide)] at H; exact H
                                    clear H
                                    have H := H1
                                    clear H1
                                    obtain rfl := Option.some.inj H
                                    go_wp2_with (first | ((with_reducible refine gate_callee (f := 9) rfl ?_); refine goesL_ (some 80) rfl rfl Try.func9 (by kernel_rfl) rfl #[] rfl (by (try simp only [List.map_toArray, List.map_cons, List.map_nil]); first | done | rfl | (simp only [List.length_drop, List.length_take]; rfl)) ?_; (with_reducible refine (interregnumlaw15_answers.calls  false _ A47.out).mono ?_); rintro e w54 ⟨rfl, hb⟩; refine ⟨_, rfl, ?_⟩; have n0_ := Aside0.mk (below_step (by repeat (first | (with_reducible first | exact HB.out | apply below_alloc | apply pw_below_drewN | apply below_drew1) | exact HB.out)) hb); clear HB; have HB := n0_; clear n0_; (try clear hb); (try clear hb2); (try clear hk); (try clear hi)))
                                    go_ret
                                    exact ⟨by first | rfl | (simp [errW_none, errW_some] <;> rfl) | (simp only [← hji26, ← hji30]; first | rfl | (simp [errW_none, errW_some] <;> rfl)) | (simp [*, errW_none, errW_some] <;> rfl), by repeat (first | (with_reducible first | exact HB.out | apply below_alloc | apply pw_below_drewN | apply below_drew1) | exact HB.out)⟩
                            · rw [if_neg c33] at H
                              exact absurd H (by simp)
                          · rw [if_neg c32] at H
                            exact absurd H (by simp)
                        · rw [if_neg c31] at H
                          exact absurd H (by simp)
                      · rw [if_neg c29] at H
                        exact absurd H (by simp)
                    · rw [if_neg c28] at H
                      exact absurd H (by simp)
                  · rw [if_neg c27] at H
                    exact absurd H (by simp)

end Go.Proofs.Ytediicgkcgfghaa.PDecideLess
