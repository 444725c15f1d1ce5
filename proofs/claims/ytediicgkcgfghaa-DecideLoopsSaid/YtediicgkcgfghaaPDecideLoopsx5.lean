-- Lean text by a program of this repo (wip/tools/printx.py), out of Lean's own print of the translation
import Derived.Test.YtediicgkcgfghaaPDecideLoopsx0
import Derived.Test.YtediicgkcgfghaaPDecideLoopsx2
import Derived.Test.YtediicgkcgfghaaPDecideLoopsx4
namespace Go.Proofs.Ytediicgkcgfghaa.PDecideLoops
open Go.RowKit Go.Proofs.YtediicgkcgfghaaW.PrintWords Go.Proofs.YtediicgkcgfghaaW.PrintLast Go.Proofs.YtediicgkcgfghaaW.PrintMore
attribute [local go_sem] max2_int min2_int max_two min_two max_three min_three max_four min_four   -- for this text's walks alone
set_option linter.unusedVariables false
set_option linter.unusedSimpArgs false

/-! ### interregnumlaw15_answers: function 9 -/
def interregnumlaw15_answers.f  : Option (Bool) := (decide_Best.f 1 ([] : List (S49)) (([(⟨(⟨0, 0⟩ : S34), 0, (⟨0, ([] : List (S47)), 0, 0, 50, ([] : List Int), ([] : List (S102))⟩ : S39), 0⟩ : S41), (⟨(⟨0, 0⟩ : S34), 0, (⟨0, ([] : List (S47)), 0, 0, (-1), ([] : List Int), ([] : List (S102))⟩ : S39), 0⟩ : S41)] : List (S41)))).bind fun bt124 => ((decide_Best.f 1 ([] : List (S49)) ([] : List (S41))).bind fun bt126 => (if bt124.1 = 1 then (if bt124.2 = true then (some (!bt126.2)) else (some false)) else (some false)))
set_option maxHeartbeats 8000000 in
set_option maxRecDepth 100000 in
theorem interregnumlaw15_answers.calls  (r : Bool) (w : World) (h : interregnumlaw15_answers.f  = some r) :
    Calls Try.prog 9 #[] w fun e w' => e = .returned (.bool r) ∧ Below w.heap.size w w' := by
  have hu39 := Try.underlying39
  have hu41 := Try.underlying41
  have HB := Aside0.mk (Below.refl w.heap.size w)
  have H : ((decide_Best.f 1 ([] : List (S49)) (([(⟨(⟨0, 0⟩ : S34), 0, (⟨0, ([] : List (S47)), 0, 0, 50, ([] : List Int), ([] : List (S102))⟩ : S39), 0⟩ : S41), (⟨(⟨0, 0⟩ : S34), 0, (⟨0, ([] : List (S47)), 0, 0, (-1), ([] : List Int), ([] : List (S102))⟩ : S39), 0⟩ : S41)] : List (S41)))).bind fun bt124 => ((decide_Best.f 1 ([] : List (S49)) ([] : List (S41))).bind fun bt126 => (if bt124.1 = 1 then (if bt124.2 = true then (some (!bt126.2)) else (some false)) else (some false)))) = some r := h
  clear h
  obtain ⟨y121, hy121⟩ : ∃ y_ : List (S41), y_ = (([(⟨(⟨0, 0⟩ : S34), 0, (⟨0, ([] : List (S47)), 0, 0, 50, ([] : List Int), ([] : List (S102))⟩ : S39), 0⟩ : S41), (⟨(⟨0, 0⟩ : S34), 0, (⟨0, ([] : List (S47)), 0, 0, (-1), ([] : List Int), ([] : List (S102))⟩ : S39), 0⟩ : S41)] : List (S41))) := ⟨_, rfl⟩
  replace H : ((decide_Best.f 1 ([] : List (S49)) y121).bind fun bt124 => ((decide_Best.f 1 ([] : List (S49)) ([] : List (S41))).bind fun bt126 => (if bt124.1 = 1 then (if bt124.2 = true then (some (!bt126.2)) else (some false)) else (some false)))) = some r := by first | (rw [hy121]; with_reducible exact H) | (have H2_ := (Option.bind_some _ _).symm.trans H; rw [hy121]; with_reducible exact H2_) | (have H2_ := (Option.bind_some _ _).symm.trans H; with_reducible exact H2_) | with_reducible exact H | (rw [hy121]; exact H) | exact H
  have Ny121 := Aside0.mk hy121
  clear hy121
  replace H := Option.bind_eq_some_iff.mp H
  obtain ⟨⟨t124, t125⟩, A10, H⟩ := H
  replace H : ((decide_Best.f 1 ([] : List (S49)) ([] : List (S41))).bind fun bt126 => (if t124 = 1 then (if t125 = true then (some (!bt126.2)) else (some false)) else (some false))) = some r := H
  have A1 := Aside0.mk A10
  clear A10
  replace H := Option.bind_eq_some_iff.mp H
  obtain ⟨⟨t126, t127⟩, A20, H⟩ := H
  replace H : (if t124 = 1 then (if t125 = true then (some (!t127)) else (some false)) else (some false)) = some r := H
  have A2 := Aside0.mk A20
  clear A20
  by_cases c3 : t124 = 1
  · rw [if_pos c3] at H
    have c3b0 : (t124 == 1) = true := beq_iff_eq.mpr c3
    have c3b1 : (t124 != 1) = false := bne_eq_false_iff_eq.mpr c3
    clear c3
    by_cases c4 : t125 = true
    · subst c4
      have H1 : (some (!t127)) = some r := by rw [if_pos rfl] at H; exact H
      clear H
      have H := H1
      clear H1
      obtain rfl := Option.some.inj H
      go_enter Try.func9, Try.ntmps9
      go_wp2_with (first | ((with_reducible refine gate_dst (N := 10) rfl ?_); refine Kd.R_lit k41 _ 41 ?hg (N := 10) ?hd (xs := ([(⟨(⟨0, 0⟩ : S34), 0, (⟨0, ([] : List (S47)), 0, 0, 50, ([] : List Int), ([] : List (S102))⟩ : S39), 0⟩ : S41), (⟨(⟨0, 0⟩ : S34), 0, (⟨0, ([] : List (S47)), 0, 0, (-1), ([] : List Int), ([] : List (S102))⟩ : S39), 0⟩ : S41)] : List (S41))) (inner := [.int .u32 0, .int .i64 0, .int .i64 0, .int .i64 0, .slice none 0 0, .int .u32 0, .int .i64 0, .int .i64 50, .slice none 0 0, .slice none 0 0, .int .i64 0, .int .u32 0, .int .i64 0, .int .i64 0, .int .i64 0, .slice none 0 0, .int .u32 0, .int .i64 0, .int .i64 (-1), .slice none 0 0, .slice none 0 0, .int .i64 0]) (ok := fun _ => True) (okp := fun _ => True) ?hr ?hp (fun _ hk => hk) trivial (Below.refl _ _) (Nat.le_refl _) (by simp) ?_; (case hd => rfl); (case hg => rfl); (case hr => first | (go_simp; done) | (go_simp; rfl) | (go_simp; simp [IntKind.wrap_u8, IntKind.wrap_u32]; done)); (case hp => exact (Reps.front (show Kd.M k41 _ _ _ (⟨(⟨0, 0⟩ : S34), 0, (⟨0, ([] : List (S47)), 0, 0, 50, ([] : List Int), ([] : List (S102))⟩ : S39), 0⟩ : S41) [.int .u32 0, .int .i64 0, .int .i64 0, .int .i64 0, .slice none 0 0, .int .u32 0, .int .i64 0, .int .i64 50, .slice none 0 0, .slice none 0 0, .int .i64 0] from (k41_mkM _ _ _ (⟨(⟨0, 0⟩ : S34), 0, (⟨0, ([] : List (S47)), 0, 0, 50, ([] : List Int), ([] : List (S102))⟩ : S39), 0⟩ : S41) (Kd.R_nil _ _ _ _ _) (Kd.R_nil _ _ _ _ _) (Kd.R_nil _ _ _ _ _))) rfl (Reps.front (show Kd.M k41 _ _ _ (⟨(⟨0, 0⟩ : S34), 0, (⟨0, ([] : List (S47)), 0, 0, (-1), ([] : List Int), ([] : List (S102))⟩ : S39), 0⟩ : S41) [.int .u32 0, .int .i64 0, .int .i64 0, .int .i64 0, .slice none 0 0, .int .u32 0, .int .i64 0, .int .i64 (-1), .slice none 0 0, .slice none 0 0, .int .i64 0] from (k41_mkM _ _ _ (⟨(⟨0, 0⟩ : S34), 0, (⟨0, ([] : List (S47)), 0, 0, (-1), ([] : List Int), ([] : List (S102))⟩ : S39), 0⟩ : S41) (Kd.R_nil _ _ _ _ _) (Kd.R_nil _ _ _ _ _) (Kd.R_nil _ _ _ _ _))) rfl (Reps.none _ _) rfl) rfl)); intro v122 w5 ho6 hb hg_ hnew_; clear hg_ hnew_; (first | rw [← Ny121.out] at ho6 | (simp only [Int.reduceToNat] at ho6; rw [← Ny121.out] at ho6)); have n0_ := Aside0.mk (Kd.R_lower ho6 (below_size (by repeat (first | (with_reducible first | exact HB.out | apply below_alloc | apply pw_below_drewN | apply below_drew1) | exact HB.out)))); have n1_ := Aside0.mk (below_step (by repeat (first | (with_reducible first | exact HB.out | apply below_alloc | apply pw_below_drewN | apply below_drew1) | exact HB.out)) hb); clear HB; have HO123 := n0_; have HB := n1_; clear n0_ n1_; clear hb ho6; obtain ⟨Ao7, co7, eo7⟩ := Kd.R_slice HO123.out; subst eo7) | ((with_reducible refine gate_callee (f := 10) rfl ?_); refine goesL_ (some 11) rfl rfl Try.func10 (by kernel_rfl) rfl #[.int .i64 1, .slice none 0 0, .slice Ao7 y121.length co7] rfl (by (try simp only [List.map_toArray, List.map_cons, List.map_nil]); first | done | rfl | (simp only [List.length_drop, List.length_take]; rfl)) ?_; (refine (decide_Best.calls 1 _ _ ([] : List (S49)) _ _ y121 t124 true _ ?side1 ?side2 ?side3 ?side4 A1.out).mono ?_); (case side1 => exact Kd.C_nil _ _); (case side2 => exact Nat.le_refl _); (case side3 => repeat (first | exact (Kd.R_reads' HO123.out).2.2 | (with_reducible refine Kd.C_alloc ?_ _) | (with_reducible refine Kd.C_drewN ?_ _) | (with_reducible refine Kd.C_drew ?_))); (case side4 => exact (Kd.R_reads' HO123.out).2.1); rintro e w8 ⟨rfl, hb⟩; refine ⟨_, rfl, ?_⟩; have n0_ := Aside0.mk (Kd.R_below (by (with_reducible repeat (first | apply Kd.R_alloc | apply Kd.R_drewN | apply Kd.R_drew)); exact HO123.out) hb); have n1_ := Aside0.mk (below_step (by repeat (first | (with_reducible first | exact HB.out | apply below_alloc | apply pw_below_drewN | apply below_drew1) | exact HB.out)) hb); clear HO123; clear HB; have HO123 := n0_; have HB := n1_; clear n0_ n1_; (try clear hb); (try clear hb2); (try clear hk); (try clear hi)) | ((with_reducible refine gate_callee (f := 10) rfl ?_); refine goesL_ (some 15) rfl rfl Try.func10 (by kernel_rfl) rfl #[.int .i64 1, .slice none 0 0, .slice none 0 0] rfl (by (try simp only [List.map_toArray, List.map_cons, List.map_nil]); first | done | rfl | (simp only [List.length_drop, List.length_take]; rfl)) ?_; (refine (decide_Best.calls 1 _ _ ([] : List (S49)) _ _ ([] : List (S41)) t126 t127 _ ?side1 ?side2 ?side3 ?side4 A2.out).mono ?_); (case side1 => exact Kd.C_nil _ _); (case side2 => exact Nat.le_refl _); (case side3 => exact Kd.C_nil _ _); (case side4 => exact Nat.le_refl _); rintro e w9 ⟨rfl, hb⟩; refine ⟨_, rfl, ?_⟩; have n0_ := Aside0.mk (Kd.R_below (by (with_reducible repeat (first | apply Kd.R_alloc | apply Kd.R_drewN | apply Kd.R_drew)); exact HO123.out) hb); have n1_ := Aside0.mk (below_step (by repeat (first | (with_reducible first | exact HB.out | apply below_alloc | apply pw_below_drewN | apply below_drew1) | exact HB.out)) hb); clear HO123; clear HB; have HO123 := n0_; have HB := n1_; clear n0_ n1_; (try clear hb); (try clear hb2); (try clear hk); (try clear hi)))
      go_ret
      exact ⟨by first | rfl | (simp [errW_none, errW_some] <;> rfl) | (simp [*, errW_none, errW_some] <;> rfl), by repeat (first | (with_reducible first | exact HB.out | apply below_alloc | apply pw_below_drewN | apply below_drew1) | exact HB.out)⟩
    · replace c4 := Bool.eq_false_iff.mpr c4
      subst c4
      have H1 : (some false) = some r := by rw [if_neg (show ¬ (false = true) by decide)] at H; exact H
      clear H
      have H := H1
      clear H1
      obtain rfl := Option.some.inj H
      go_enter Try.func9, Try.ntmps9
      go_wp2_with (first | ((with_reducible refine gate_dst (N := 10) rfl ?_); refine Kd.R_lit k41 _ 41 ?hg (N := 10) ?hd (xs := ([(⟨(⟨0, 0⟩ : S34), 0, (⟨0, ([] : List (S47)), 0, 0, 50, ([] : List Int), ([] : List (S102))⟩ : S39), 0⟩ : S41), (⟨(⟨0, 0⟩ : S34), 0, (⟨0, ([] : List (S47)), 0, 0, (-1), ([] : List Int), ([] : List (S102))⟩ : S39), 0⟩ : S41)] : List (S41))) (inner := [.int .u32 0, .int .i64 0, .int .i64 0, .int .i64 0, .slice none 0 0, .int .u32 0, .int .i64 0, .int .i64 50, .slice none 0 0, .slice none 0 0, .int .i64 0, .int .u32 0, .int .i64 0, .int .i64 0, .int .i64 0, .slice none 0 0, .int .u32 0, .int .i64 0, .int .i64 (-1), .slice none 0 0, .slice none 0 0, .int .i64 0]) (ok := fun _ => True) (okp := fun _ => True) ?hr ?hp (fun _ hk => hk) trivial (Below.refl _ _) (Nat.le_refl _) (by simp) ?_; (case hd => rfl); (case hg => rfl); (case hr => first | (go_simp; done) | (go_simp; rfl) | (go_simp; simp [IntKind.wrap_u8, IntKind.wrap_u32]; done)); (case hp => exact (Reps.front (show Kd.M k41 _ _ _ (⟨(⟨0, 0⟩ : S34), 0, (⟨0, ([] : List (S47)), 0, 0, 50, ([] : List Int), ([] : List (S102))⟩ : S39), 0⟩ : S41) [.int .u32 0, .int .i64 0, .int .i64 0, .int .i64 0, .slice none 0 0, .int .u32 0, .int .i64 0, .int .i64 50, .slice none 0 0, .slice none 0 0, .int .i64 0] from (k41_mkM _ _ _ (⟨(⟨0, 0⟩ : S34), 0, (⟨0, ([] : List (S47)), 0, 0, 50, ([] : List Int), ([] : List (S102))⟩ : S39), 0⟩ : S41) (Kd.R_nil _ _ _ _ _) (Kd.R_nil _ _ _ _ _) (Kd.R_nil _ _ _ _ _))) rfl (Reps.front (show Kd.M k41 _ _ _ (⟨(⟨0, 0⟩ : S34), 0, (⟨0, ([] : List (S47)), 0, 0, (-1), ([] : List Int), ([] : List (S102))⟩ : S39), 0⟩ : S41) [.int .u32 0, .int .i64 0, .int .i64 0, .int .i64 0, .slice none 0 0, .int .u32 0, .int .i64 0, .int .i64 (-1), .slice none 0 0, .slice none 0 0, .int .i64 0] from (k41_mkM _ _ _ (⟨(⟨0, 0⟩ : S34), 0, (⟨0, ([] : List (S47)), 0, 0, (-1), ([] : List Int), ([] : List (S102))⟩ : S39), 0⟩ : S41) (Kd.R_nil _ _ _ _ _) (Kd.R_nil _ _ _ _ _) (Kd.R_nil _ _ _ _ _))) rfl (Reps.none _ _) rfl) rfl)); intro v122 w10 ho11 hb hg_ hnew_; clear hg_ hnew_; (first | rw [← Ny121.out] at ho11 | (simp only [Int.reduceToNat] at ho11; rw [← Ny121.out] at ho11)); have n0_ := Aside0.mk (Kd.R_lower ho11 (below_size (by repeat (first | (with_reducible first | exact HB.out | apply below_alloc | apply pw_below_drewN | apply below_drew1) | exact HB.out)))); have n1_ := Aside0.mk (below_step (by repeat (first | (with_reducible first | exact HB.out | apply below_alloc | apply pw_below_drewN | apply below_drew1) | exact HB.out)) hb); clear HB; have HO123 := n0_; have HB := n1_; clear n0_ n1_; clear hb ho11; obtain ⟨Ao12, co12, eo12⟩ := Kd.R_slice HO123.out; subst eo12) | ((with_reducible refine gate_callee (f := 10) rfl ?_); refine goesL_ (some 11) rfl rfl Try.func10 (by kernel_rfl) rfl #[.int .i64 1, .slice none 0 0, .slice Ao12 y121.length co12] rfl (by (try simp only [List.map_toArray, List.map_cons, List.map_nil]); first | done | rfl | (simp only [List.length_drop, List.length_take]; rfl)) ?_; (refine (decide_Best.calls 1 _ _ ([] : List (S49)) _ _ y121 t124 false _ ?side1 ?side2 ?side3 ?side4 A1.out).mono ?_); (case side1 => exact Kd.C_nil _ _); (case side2 => exact Nat.le_refl _); (case side3 => repeat (first | exact (Kd.R_reads' HO123.out).2.2 | (with_reducible refine Kd.C_alloc ?_ _) | (with_reducible refine Kd.C_drewN ?_ _) | (with_reducible refine Kd.C_drew ?_))); (case side4 => exact (Kd.R_reads' HO123.out).2.1); rintro e w13 ⟨rfl, hb⟩; refine ⟨_, rfl, ?_⟩; have n0_ := Aside0.mk (Kd.R_below (by (with_reducible repeat (first | apply Kd.R_alloc | apply Kd.R_drewN | apply Kd.R_drew)); exact HO123.out) hb); have n1_ := Aside0.mk (below_step (by repeat (first | (with_reducible first | exact HB.out | apply below_alloc | apply pw_below_drewN | apply below_drew1) | exact HB.out)) hb); clear HO123; clear HB; have HO123 := n0_; have HB := n1_; clear n0_ n1_; (try clear hb); (try clear hb2); (try clear hk); (try clear hi)) | ((with_reducible refine gate_callee (f := 10) rfl ?_); refine goesL_ (some 15) rfl rfl Try.func10 (by kernel_rfl) rfl #[.int .i64 1, .slice none 0 0, .slice none 0 0] rfl (by (try simp only [List.map_toArray, List.map_cons, List.map_nil]); first | done | rfl | (simp only [List.length_drop, List.length_take]; rfl)) ?_; (refine (decide_Best.calls 1 _ _ ([] : List (S49)) _ _ ([] : List (S41)) t126 t127 _ ?side1 ?side2 ?side3 ?side4 A2.out).mono ?_); (case side1 => exact Kd.C_nil _ _); (case side2 => exact Nat.le_refl _); (case side3 => exact Kd.C_nil _ _); (case side4 => exact Nat.le_refl _); rintro e w14 ⟨rfl, hb⟩; refine ⟨_, rfl, ?_⟩; have n0_ := Aside0.mk (Kd.R_below (by (with_reducible repeat (first | apply Kd.R_alloc | apply Kd.R_drewN | apply Kd.R_drew)); exact HO123.out) hb); have n1_ := Aside0.mk (below_step (by repeat (first | (with_reducible first | exact HB.out | apply below_alloc | apply pw_below_drewN | apply below_drew1) | exact HB.out)) hb); clear HO123; clear HB; have HO123 := n0_; have HB := n1_; clear n0_ n1_; (try clear hb); (try clear hb2); (try clear hk); (try clear hi)))
      go_ret
      exact ⟨by first | rfl | (simp [errW_none, errW_some] <;> rfl) | (simp [*, errW_none, errW_some] <;> rfl), by repeat (first | (with_reducible first | exact HB.out | apply below_alloc | apply pw_below_drewN | apply below_drew1) | exact HB.out)⟩
  · rw [if_neg c3] at H
    have c3b0 : (t124 == 1) = false := beq_eq_false_iff_ne.mpr c3
    have c3b1 : (t124 != 1) = true := bne_iff_ne.mpr c3
    obtain rfl := Option.some.inj H
    go_enter Try.func9, Try.ntmps9
    go_wp2_with (first | ((with_reducible refine gate_dst (N := 10) rfl ?_); refine Kd.R_lit k41 _ 41 ?hg (N := 10) ?hd (xs := ([(⟨(⟨0, 0⟩ : S34), 0, (⟨0, ([] : List (S47)), 0, 0, 50, ([] : List Int), ([] : List (S102))⟩ : S39), 0⟩ : S41), (⟨(⟨0, 0⟩ : S34), 0, (⟨0, ([] : List (S47)), 0, 0, (-1), ([] : List Int), ([] : List (S102))⟩ : S39), 0⟩ : S41)] : List (S41))) (inner := [.int .u32 0, .int .i64 0, .int .i64 0, .int .i64 0, .slice none 0 0, .int .u32 0, .int .i64 0, .int .i64 50, .slice none 0 0, .slice none 0 0, .int .i64 0, .int .u32 0, .int .i64 0, .int .i64 0, .int .i64 0, .slice none 0 0, .int .u32 0, .int .i64 0, .int .i64 (-1), .slice none 0 0, .slice none 0 0, .int .i64 0]) (ok := fun _ => True) (okp := fun _ => True) ?hr ?hp (fun _ hk => hk) trivial (Below.refl _ _) (Nat.le_refl _) (by simp) ?_; (case hd => rfl); (case hg => rfl); (case hr => first | (go_simp; done) | (go_simp; rfl) | (go_simp; simp [IntKind.wrap_u8, IntKind.wrap_u32]; done)); (case hp => exact (Reps.front (show Kd.M k41 _ _ _ (⟨(⟨0, 0⟩ : S34), 0, (⟨0, ([] : List (S47)), 0, 0, 50, ([] : List Int), ([] : List (S102))⟩ : S39), 0⟩ : S41) [.int .u32 0, .int .i64 0, .int .i64 0, .int .i64 0, .slice none 0 0, .int .u32 0, .int .i64 0, .int .i64 50, .slice none 0 0, .slice none 0 0, .int .i64 0] from (k41_mkM _ _ _ (⟨(⟨0, 0⟩ : S34), 0, (⟨0, ([] : List (S47)), 0, 0, 50, ([] : List Int), ([] : List (S102))⟩ : S39), 0⟩ : S41) (Kd.R_nil _ _ _ _ _) (Kd.R_nil _ _ _ _ _) (Kd.R_nil _ _ _ _ _))) rfl (Reps.front (show Kd.M k41 _ _ _ (⟨(⟨0, 0⟩ : S34), 0, (⟨0, ([] : List (S47)), 0, 0, (-1), ([] : List Int), ([] : List (S102))⟩ : S39), 0⟩ : S41) [.int .u32 0, .int .i64 0, .int .i64 0, .int .i64 0, .slice none 0 0, .int .u32 0, .int .i64 0, .int .i64 (-1), .slice none 0 0, .slice none 0 0, .int .i64 0] from (k41_mkM _ _ _ (⟨(⟨0, 0⟩ : S34), 0, (⟨0, ([] : List (S47)), 0, 0, (-1), ([] : List Int), ([] : List (S102))⟩ : S39), 0⟩ : S41) (Kd.R_nil _ _ _ _ _) (Kd.R_nil _ _ _ _ _) (Kd.R_nil _ _ _ _ _))) rfl (Reps.none _ _) rfl) rfl)); intro v122 w15 ho16 hb hg_ hnew_; clear hg_ hnew_; (first | rw [← Ny121.out] at ho16 | (simp only [Int.reduceToNat] at ho16; rw [← Ny121.out] at ho16)); have n0_ := Aside0.mk (Kd.R_lower ho16 (below_size (by repeat (first | (with_reducible first | exact HB.out | apply below_alloc | apply pw_below_drewN | apply below_drew1) | exact HB.out)))); have n1_ := Aside0.mk (below_step (by repeat (first | (with_reducible first | exact HB.out | apply below_alloc | apply pw_below_drewN | apply below_drew1) | exact HB.out)) hb); clear HB; have HO123 := n0_; have HB := n1_; clear n0_ n1_; clear hb ho16; obtain ⟨Ao17, co17, eo17⟩ := Kd.R_slice HO123.out; subst eo17) | ((with_reducible refine gate_callee (f := 10) rfl ?_); refine goesL_ (some 11) rfl rfl Try.func10 (by kernel_rfl) rfl #[.int .i64 1, .slice none 0 0, .slice Ao17 y121.length co17] rfl (by (try simp only [List.map_toArray, List.map_cons, List.map_nil]); first | done | rfl | (simp only [List.length_drop, List.length_take]; rfl)) ?_; (refine (decide_Best.calls 1 _ _ ([] : List (S49)) _ _ y121 t124 t125 _ ?side1 ?side2 ?side3 ?side4 A1.out).mono ?_); (case side1 => exact Kd.C_nil _ _); (case side2 => exact Nat.le_refl _); (case side3 => repeat (first | exact (Kd.R_reads' HO123.out).2.2 | (with_reducible refine Kd.C_alloc ?_ _) | (with_reducible refine Kd.C_drewN ?_ _) | (with_reducible refine Kd.C_drew ?_))); (case side4 => exact (Kd.R_reads' HO123.out).2.1); rintro e w18 ⟨rfl, hb⟩; refine ⟨_, rfl, ?_⟩; have n0_ := Aside0.mk (Kd.R_below (by (with_reducible repeat (first | apply Kd.R_alloc | apply Kd.R_drewN | apply Kd.R_drew)); exact HO123.out) hb); have n1_ := Aside0.mk (below_step (by repeat (first | (with_reducible first | exact HB.out | apply below_alloc | apply pw_below_drewN | apply below_drew1) | exact HB.out)) hb); clear HO123; clear HB; have HO123 := n0_; have HB := n1_; clear n0_ n1_; (try clear hb); (try clear hb2); (try clear hk); (try clear hi)) | ((with_reducible refine gate_callee (f := 10) rfl ?_); refine goesL_ (some 15) rfl rfl Try.func10 (by kernel_rfl) rfl #[.int .i64 1, .slice none 0 0, .slice none 0 0] rfl (by (try simp only [List.map_toArray, List.map_cons, List.map_nil]); first | done | rfl | (simp only [List.length_drop, List.length_take]; rfl)) ?_; (refine (decide_Best.calls 1 _ _ ([] : List (S49)) _ _ ([] : List (S41)) t126 t127 _ ?side1 ?side2 ?side3 ?side4 A2.out).mono ?_); (case side1 => exact Kd.C_nil _ _); (case side2 => exact Nat.le_refl _); (case side3 => exact Kd.C_nil _ _); (case side4 => exact Nat.le_refl _); rintro e w19 ⟨rfl, hb⟩; refine ⟨_, rfl, ?_⟩; have n0_ := Aside0.mk (Kd.R_below (by (with_reducible repeat (first | apply Kd.R_alloc | apply Kd.R_drewN | apply Kd.R_drew)); exact HO123.out) hb); have n1_ := Aside0.mk (below_step (by repeat (first | (with_reducible first | exact HB.out | apply below_alloc | apply pw_below_drewN | apply below_drew1) | exact HB.out)) hb); clear HO123; clear HB; have HO123 := n0_; have HB := n1_; clear n0_ n1_; (try clear hb); (try clear hb2); (try clear hk); (try clear hi)))
    go_ret
    exact ⟨by first | rfl | (simp [errW_none, errW_some] <;> rfl) | (simp [*, errW_none, errW_some] <;> rfl), by repeat (first | (with_reducible first | exact HB.out | apply below_alloc | apply pw_below_drewN | apply below_drew1) | exact HB.out)⟩

/-! ### interregnumref05_HasAS: function 13 -/
mutual
def interregnumref05_HasAS.l0 : Nat → List (S47) → Int → Int → Option (Bool)
  | 0, _, _, _ => none
  | k + 1, x0, x1, x5 => if x5 < (x0.length : Int) then (interregnumref05_HasAS.l1 k x0 x1 x5 0) else (some false)
def interregnumref05_HasAS.l1 : Nat → List (S47) → Int → Int → Int → Option (Bool)
  | 0, _, _, _, _ => none
  | k + 1, x0, x1, x5, x6 => if 0 ≤ x5 then (if x5 < (x0.length : Int) then (if x6 < (((rd_T47 x0 x5).f1).length : Int) then (if 0 ≤ x6 then (if (rd ((rd_T47 x0 x5).f1) x6) = x1 then (some true) else (interregnumref05_HasAS.l1 k x0 x1 x5 (wrap64 (x6 + 1)))) else (none)) else (interregnumref05_HasAS.l0 k x0 x1 (wrap64 (x5 + 1)))) else (none)) else (none)
end
def interregnumref05_HasAS.f (k : Nat) (l0 : List (S47)) (a1 : Int) : Option (Bool) := interregnumref05_HasAS.l0 k l0 a1 0
theorem interregnumref05_HasAS.mono_l : ∀ k, (∀ y0 y1 y2, LeO (interregnumref05_HasAS.l0 k y0 y1 y2) (interregnumref05_HasAS.l0 (k + 1) y0 y1 y2)) ∧ (∀ y0 y1 y2 y3, LeO (interregnumref05_HasAS.l1 k y0 y1 y2 y3) (interregnumref05_HasAS.l1 (k + 1) y0 y1 y2 y3))
  | 0 => ⟨fun _ _ _ r h => by simp [interregnumref05_HasAS.l0] at h, fun _ _ _ _ r h => by simp [interregnumref05_HasAS.l1] at h⟩
  | k + 1 => by
    obtain ⟨ih0, ih1⟩ := interregnumref05_HasAS.mono_l k
    refine ⟨?_, ?_⟩
    · intro y0 y1 y2
      unfold interregnumref05_HasAS.l0
      repeat' first
      | (with_reducible exact ih0 _ _ _)
      | (with_reducible exact ih1 _ _ _ _)
      | (with_reducible exact LeO.refl _)
      | (with_reducible exact LeO.none _)
      | (with_reducible refine LeO.ite ?_ ?_)
      | (with_reducible refine LeO.bind ?_ (fun _ => ?_))
      | exact ih0 _ _ _
      | exact ih1 _ _ _ _
      | exact LeO.none _
      | refine LeO.ite ?_ ?_
      | refine LeO.bind ?_ (fun _ => ?_)
    · intro y0 y1 y2 y3
      unfold interregnumref05_HasAS.l1
      repeat' first
      | (with_reducible exact ih0 _ _ _)
      | (with_reducible exact ih1 _ _ _ _)
      | (with_reducible exact LeO.refl _)
      | (with_reducible exact LeO.none _)
      | (with_reducible refine LeO.ite ?_ ?_)
      | (with_reducible refine LeO.bind ?_ (fun _ => ?_))
      | exact ih0 _ _ _
      | exact ih1 _ _ _ _
      | exact LeO.none _
      | refine LeO.ite ?_ ?_
      | refine LeO.bind ?_ (fun _ => ?_)
theorem interregnumref05_HasAS.mono : ∀ a0 a1 k, LeO (interregnumref05_HasAS.f k a0 a1) (interregnumref05_HasAS.f (k + 1) a0 a1) := by
  intro a0 a1 k
  obtain ⟨ih0, ih1⟩ := interregnumref05_HasAS.mono_l k
  unfold interregnumref05_HasAS.f
  repeat' first
      | (with_reducible exact ih0 _ _ _)
      | (with_reducible exact ih1 _ _ _ _)
      | (with_reducible exact LeO.refl _)
      | (with_reducible exact LeO.none _)
      | (with_reducible refine LeO.ite ?_ ?_)
      | (with_reducible refine LeO.bind ?_ (fun _ => ?_))
      | exact ih0 _ _ _
      | exact ih1 _ _ _ _
      | exact LeO.none _
      | refine LeO.ite ?_ ?_
      | refine LeO.bind ?_ (fun _ => ?_)
set_option maxHeartbeats 8000000 in
set_option maxRecDepth 100000 in
theorem interregnumref05_HasAS.calls (k : Nat) (A0 : Option Addr) (c0 : Nat) (l0 : List (S47)) (a1 : Int) (r : Bool) (w : World) (hr0 : Kd.C k47 w A0 l0.length l0) (hc0 : l0.length ≤ c0) (h : interregnumref05_HasAS.f k l0 a1 = some r) :
    Calls Try.prog 13 #[.slice A0 l0.length c0, .int .i64 a1] w fun e w' => e = .returned (.bool r) ∧ Drawn0 w w' := by
  have HR0 := Aside0.mk hr0
  have HC0 := Aside0.mk hc0
  clear hr0 hc0
  have H : (interregnumref05_HasAS.l0 k l0 a1 0) = some r := h
  clear h
  have H' := Aside0.mk H
  clear H
  go_enter Try.func13, Try.ntmps13
  go_wp2
  go_loopg [5] k (fun kq v5 w' => ∃ (x5_1 : Int), v5 = .int .i64 x5_1 ∧ Aside0 (interregnumref05_HasAS.l0 kq l0 a1 x5_1 = some r) ∧ Aside0 (kq ≤ k) ∧ Drawn0 w w')
  case atStart => exact ⟨(0), (by first | rfl | (simp; done) | (simp [*]; done)), H', ⟨Nat.le_refl _⟩, by repeat (first | exact Drawn0.refl _ | apply Drawn0.step)⟩
  case round =>
    clear H'
    try clear c1
    try clear p2
    obtain ⟨x5_1, rfl, HA, HK1, ⟨m1, rfl⟩⟩ := hrel
    cases gk with
    | zero => exact absurd HA.out (by simp [interregnumref05_HasAS.l0])
    | succ k1 =>
      have H := HA.out
      clear HA
      simp only [interregnumref05_HasAS.l0] at H
      by_cases c3 : x5_1 < (l0.length : Int)
      · rw [if_pos c3] at H
        have c3b0 : decide (x5_1 < (l0.length : Int)) = true := decide_eq_true c3
        clear c3
        have H' := Aside0.mk H
        clear H
        go_wp2
        go_loopg [6] k1 (fun kq v6 w' => ∃ (x6_2 : Int), v6 = .int .i64 x6_2 ∧ Aside0 (interregnumref05_HasAS.l1 kq l0 a1 x5_1 x6_2 = some r) ∧ Aside0 (kq ≤ k1) ∧ Drawn0 w w')
        case atStart => exact ⟨(0), (by first | rfl | (simp; done) | (simp [*]; done)), H', ⟨Nat.le_refl _⟩, by repeat (first | exact Drawn0.refl _ | apply Drawn0.step)⟩
        case round =>
          clear H'
          try clear c1
          try clear p2
          try clear c3
          try clear c3b0
          try clear p2
          obtain ⟨x6_2, rfl, HA, HK2, ⟨m2, rfl⟩⟩ := hrel
          cases gk with
          | zero => exact absurd HA.out (by simp [interregnumref05_HasAS.l1])
          | succ k2 =>
            have H := HA.out
            clear HA
            simp only [interregnumref05_HasAS.l1] at H
            by_cases c4 : 0 ≤ x5_1
            · rw [if_pos c4] at H
              have c4b0 : decide (0 ≤ x5_1) = true := decide_eq_true c4
              clear c4
              by_cases c5 : x5_1 < (l0.length : Int)
              · rw [if_pos c5] at H
                have c5b0 : decide (x5_1 < (l0.length : Int)) = true := decide_eq_true c5
                clear c5
                by_cases c6 : x6_2 < (((rd_T47 l0 x5_1).f1).length : Int)
                · rw [if_pos c6] at H
                  have c6b0 : decide (x6_2 < (((rd_T47 l0 x5_1).f1).length : Int)) = true := decide_eq_true c6
                  clear c6
                  by_cases c7 : 0 ≤ x6_2
                  · rw [if_pos c7] at H
                    have c7b0 : decide (0 ≤ x6_2) = true := decide_eq_true c7
                    clear c7
                    by_cases c8 : (rd ((rd_T47 l0 x5_1).f1) x6_2) = a1
                    · rw [if_pos c8] at H
                      have c8b0 : ((rd ((rd_T47 l0 x5_1).f1) x6_2) == a1) = true := beq_iff_eq.mpr c8
                      have c8b1 : ((rd ((rd_T47 l0 x5_1).f1) x6_2) != a1) = false := bne_eq_false_iff_eq.mpr c8
                      clear c8
                      obtain rfl := Option.some.inj H
                      have p128 : 0 ≤ (x5_1 : Int) := of_decide_eq_true (by first | (with_reducible assumption) | assumption)
                      have q128 : x5_1 < (l0.length : Int) := of_decide_eq_true (by first | (with_reducible assumption) | assumption)
                      obtain ⟨ad128, A128_1, c128_1, e128, hx128_0, hx128_1, hl128_1, hi128_1⟩ := at_T47 HR0.out x5_1 p128 q128
                      cases e128
                      have HR128_1 := Aside0.mk hi128_1
                      have HC128_1 := Aside0.mk hl128_1
                      clear hi128_1 hl128_1
                      replace p128 := eq_true p128
                      replace q128 := eq_true q128
                      have p129 : 0 ≤ (x5_1 : Int) := of_decide_eq_true (by first | (with_reducible assumption) | assumption)
                      have q129 : x5_1 < (l0.length : Int) := of_decide_eq_true (by first | (with_reducible assumption) | assumption)
                      obtain ⟨ad129, A129_1, c129_1, e129, hx129_0, hx129_1, hl129_1, hi129_1⟩ := at_T47 HR0.out x5_1 p129 q129
                      obtain rfl : ad128 = ad129 := (by injection e129)
                      have HR129_1 := Aside0.mk hi129_1
                      have HC129_1 := Aside0.mk hl129_1
                      clear hi129_1 hl129_1
                      replace p129 := eq_true p129
                      replace q129 := eq_true q129
                      have ea_ := Option.some.inj (hx128_1.symm.trans hx129_1)
                      injection ea_ with ea_ en_ ec_
                      subst ea_
                      subst ec_
                      clear en_
                      have p130 : 0 ≤ (x6_2 : Int) := of_decide_eq_true (by first | (with_reducible assumption) | assumption)
                      have q130 : x6_2 < (((rd_T47 l0 x5_1).f1).length : Int) := of_decide_eq_true (by first | (with_reducible assumption) | assumption)
                      obtain ⟨ad130, e130, hx130_0⟩ := Kd.at_int HR129_1.out x6_2 p130 q130
                      cases e130
                      replace p130 := eq_true p130
                      replace q130 := eq_true q130
                      go_wp2
                      go_ret
                      exact ⟨by first | rfl | (simp; done) | (simp [*]; done), by repeat (first | exact Drawn0.refl _ | apply Drawn0.step)⟩
                    · rw [if_neg c8] at H
                      have c8b0 : ((rd ((rd_T47 l0 x5_1).f1) x6_2) == a1) = false := beq_eq_false_iff_ne.mpr c8
                      have c8b1 : ((rd ((rd_T47 l0 x5_1).f1) x6_2) != a1) = true := bne_iff_ne.mpr c8
                      have H' := Aside0.mk H
                      clear H
                      have p128 : 0 ≤ (x5_1 : Int) := of_decide_eq_true (by first | (with_reducible assumption) | assumption)
                      have q128 : x5_1 < (l0.length : Int) := of_decide_eq_true (by first | (with_reducible assumption) | assumption)
                      obtain ⟨ad128, A128_1, c128_1, e128, hx128_0, hx128_1, hl128_1, hi128_1⟩ := at_T47 HR0.out x5_1 p128 q128
                      cases e128
                      have HR128_1 := Aside0.mk hi128_1
                      have HC128_1 := Aside0.mk hl128_1
                      clear hi128_1 hl128_1
                      replace p128 := eq_true p128
                      replace q128 := eq_true q128
                      have p129 : 0 ≤ (x5_1 : Int) := of_decide_eq_true (by first | (with_reducible assumption) | assumption)
                      have q129 : x5_1 < (l0.length : Int) := of_decide_eq_true (by first | (with_reducible assumption) | assumption)
                      obtain ⟨ad129, A129_1, c129_1, e129, hx129_0, hx129_1, hl129_1, hi129_1⟩ := at_T47 HR0.out x5_1 p129 q129
                      obtain rfl : ad128 = ad129 := (by injection e129)
                      have HR129_1 := Aside0.mk hi129_1
                      have HC129_1 := Aside0.mk hl129_1
                      clear hi129_1 hl129_1
                      replace p129 := eq_true p129
                      replace q129 := eq_true q129
                      have ea_ := Option.some.inj (hx128_1.symm.trans hx129_1)
                      injection ea_ with ea_ en_ ec_
                      subst ea_
                      subst ec_
                      clear en_
                      have p130 : 0 ≤ (x6_2 : Int) := of_decide_eq_true (by first | (with_reducible assumption) | assumption)
                      have q130 : x6_2 < (((rd_T47 l0 x5_1).f1).length : Int) := of_decide_eq_true (by first | (with_reducible assumption) | assumption)
                      obtain ⟨ad130, e130, hx130_0⟩ := Kd.at_int HR129_1.out x6_2 p130 q130
                      cases e130
                      replace p130 := eq_true p130
                      replace q130 := eq_true q130
                      go_wp2
                      go_roundg k2
                      case measure => have := HK1.out; have := HK2.out; omega
                      case rel => exact ⟨(wrap64 (x6_2 + 1)), (by first | rfl | (simp; done) | (simp [*]; done)), H', ⟨by have := HK1.out; have := HK2.out; omega⟩, by repeat (first | exact Drawn0.refl _ | apply Drawn0.step)⟩
                  · rw [if_neg c7] at H
                    exact absurd H (by simp)
                · rw [if_neg c6] at H
                  have c6b0 : decide (x6_2 < (((rd_T47 l0 x5_1).f1).length : Int)) = false := decide_eq_false c6
                  clear c6
                  have H' := Aside0.mk H
                  clear H
                  have p128 : 0 ≤ (x5_1 : Int) := of_decide_eq_true (by first | (with_reducible assumption) | assumption)
                  have q128 : x5_1 < (l0.length : Int) := of_decide_eq_true (by first | (with_reducible assumption) | assumption)
                  obtain ⟨ad128, A128_1, c128_1, e128, hx128_0, hx128_1, hl128_1, hi128_1⟩ := at_T47 HR0.out x5_1 p128 q128
                  cases e128
                  have HR128_1 := Aside0.mk hi128_1
                  have HC128_1 := Aside0.mk hl128_1
                  clear hi128_1 hl128_1
                  replace p128 := eq_true p128
                  replace q128 := eq_true q128
                  go_wp2
                  go_roundg k2
                  case measure => have := HK1.out; have := HK2.out; omega
                  case rel => exact ⟨(wrap64 (x5_1 + 1)), (by first | rfl | (simp; done) | (simp [*]; done)), H', ⟨by have := HK1.out; have := HK2.out; omega⟩, by repeat (first | exact Drawn0.refl _ | apply Drawn0.step)⟩
              · rw [if_neg c5] at H
                exact absurd H (by simp)
            · rw [if_neg c4] at H
              exact absurd H (by simp)
      · rw [if_neg c3] at H
        have c3b0 : decide (x5_1 < (l0.length : Int)) = false := decide_eq_false c3
        clear c3
        obtain rfl := Option.some.inj H
        go_wp2
        go_ret
        exact ⟨by first | rfl | (simp; done) | (simp [*]; done), by repeat (first | exact Drawn0.refl _ | apply Drawn0.step)⟩

/-! ### interregnumlaw15_DecideLoops: function 6 -/
mutual
def interregnumlaw15_DecideLoops.j0 : Nat → Int → List (S49) → List (S41) → Bool → Option (Bool)
  | 0, _, _, _, _ => none
  | k + 1, x0, x1, x2, x20 => if x20 = true then ((interregnumlaw15_answers.f).bind fun t132 => (some t132)) else ((decide_Best.f x0 x1 x2).bind fun bt133 => (interregnumlaw15_DecideLoops.l0 k x0 x2 bt133.1 bt133.2 false false false 0))
def interregnumlaw15_DecideLoops.l0 : Nat → Int → List (S41) → Int → Bool → Bool → Bool → Bool → Int → Option (Bool)
  | 0, _, _, _, _, _, _, _, _ => none
  | k + 1, x0, x2, x7, x8, x9, x10, x11, x12 => if x12 < (x2.length : Int) then (if 0 ≤ x12 then ((interregnumref05_HasAS.f k ((rd_T41 x2 x12).f2.f1) x0).bind fun t136 => (if t136 = true then (interregnumlaw15_DecideLoops.l0 k x0 x2 x7 x8 x9 x10 x11 (wrap64 (x12 + 1))) else (if x9 = true then (if x10 = true then (interregnumlaw15_DecideLoops.l0 k x0 x2 x7 x8 true true true (wrap64 (x12 + 1))) else (interregnumlaw15_DecideLoops.l0 k x0 x2 x7 x8 true (decide (((rd_T41 x2 x12).f1) < 0)) true (wrap64 (x12 + 1)))) else (if x10 = true then (interregnumlaw15_DecideLoops.l0 k x0 x2 x7 x8 (((rd_T41 x2 x12).f3) != 2) true true (wrap64 (x12 + 1))) else (interregnumlaw15_DecideLoops.l0 k x0 x2 x7 x8 (((rd_T41 x2 x12).f3) != 2) (decide (((rd_T41 x2 x12).f1) < 0)) true (wrap64 (x12 + 1))))))) else (none)) else (if (x8 != x11) = true then (some false) else (if x8 = true then ((interregnumlaw15_answers.f).bind fun t141 => (if t141 = true then (if 0 ≤ x7 then (if x7 < (x2.length : Int) then ((interregnumref05_HasAS.f k ((rd_T41 x2 x7).f2.f1) x0).bind fun t143 => (if t143 = true then (some false) else (if x10 = true then (if ((rd_T41 x2 x7).f1) < 0 then (some true) else (some false)) else (if x9 = true then (some (((rd_T41 x2 x7).f3) != 2)) else (some true))))) else (none)) else (none)) else (some false))) else ((interregnumlaw15_answers.f).bind fun t140 => (if t140 = true then (some (x7 == 0)) else (some false)))))
end
def interregnumlaw15_DecideLoops.f (k : Nat) (a0 : Int) (l1 : List (S49)) (l2 : List (S41)) : Option (Bool) := (interregnumlaw15_small.f k l2).bind fun t131 => (if t131 = true then (interregnumlaw15_DecideLoops.j0 k a0 l1 l2 (decide ((l1.length : Int) > 20))) else (interregnumlaw15_DecideLoops.j0 k a0 l1 l2 true))
theorem interregnumlaw15_DecideLoops.mono_l : ∀ k, (∀ y0 y1 y2 y3, LeO (interregnumlaw15_DecideLoops.j0 k y0 y1 y2 y3) (interregnumlaw15_DecideLoops.j0 (k + 1) y0 y1 y2 y3)) ∧ (∀ y0 y1 y2 y3 y4 y5 y6 y7, LeO (interregnumlaw15_DecideLoops.l0 k y0 y1 y2 y3 y4 y5 y6 y7) (interregnumlaw15_DecideLoops.l0 (k + 1) y0 y1 y2 y3 y4 y5 y6 y7))
  | 0 => ⟨fun _ _ _ _ r h => by simp [interregnumlaw15_DecideLoops.j0] at h, fun _ _ _ _ _ _ _ _ r h => by simp [interregnumlaw15_DecideLoops.l0] at h⟩
  | k + 1 => by
    obtain ⟨ih0, ih1⟩ := interregnumlaw15_DecideLoops.mono_l k
    refine ⟨?_, ?_⟩
    · intro y0 y1 y2 y3
      unfold interregnumlaw15_DecideLoops.j0
      repeat' first
      | (with_reducible exact ih0 _ _ _ _)
      | (with_reducible exact ih1 _ _ _ _ _ _ _ _)
      | (with_reducible exact interregnumlaw15_small.mono _ _)
      | (with_reducible exact interregnumref05_HasAS.mono _ _ _)
      | (with_reducible exact LeO.refl _)
      | (with_reducible exact LeO.none _)
      | (with_reducible refine LeO.ite ?_ ?_)
      | (with_reducible refine LeO.bind ?_ (fun _ => ?_))
      | exact ih0 _ _ _ _
      | exact ih1 _ _ _ _ _ _ _ _
      | exact interregnumlaw15_small.mono _ _
      | exact interregnumref05_HasAS.mono _ _ _
      | exact LeO.none _
      | refine LeO.ite ?_ ?_
      | refine LeO.bind ?_ (fun _ => ?_)
    · intro y0 y1 y2 y3 y4 y5 y6 y7
      unfold interregnumlaw15_DecideLoops.l0
      repeat' first
      | (with_reducible exact ih0 _ _ _ _)
      | (with_reducible exact ih1 _ _ _ _ _ _ _ _)
      | (with_reducible exact interregnumlaw15_small.mono _ _)
      | (with_reducible exact interregnumref05_HasAS.mono _ _ _)
      | (with_reducible exact LeO.refl _)
      | (with_reducible exact LeO.none _)
      | (with_reducible refine LeO.ite ?_ ?_)
      | (with_reducible refine LeO.bind ?_ (fun _ => ?_))
      | exact ih0 _ _ _ _
      | exact ih1 _ _ _ _ _ _ _ _
      | exact interregnumlaw15_small.mono _ _
      | exact interregnumref05_HasAS.mono _ _ _
      | exact LeO.none _
      | refine LeO.ite ?_ ?_
      | refine LeO.bind ?_ (fun _ => ?_)
theorem interregnumlaw15_DecideLoops.mono : ∀ a0 a1 a2 k, LeO (interregnumlaw15_DecideLoops.f k a0 a1 a2) (interregnumlaw15_DecideLoops.f (k + 1) a0 a1 a2) := by
  intro a0 a1 a2 k
  obtain ⟨ih0, ih1⟩ := interregnumlaw15_DecideLoops.mono_l k
  unfold interregnumlaw15_DecideLoops.f
  repeat' first
      | (with_reducible exact ih0 _ _ _ _)
      | (with_reducible exact ih1 _ _ _ _ _ _ _ _)
      | (with_reducible exact interregnumlaw15_small.mono _ _)
      | (with_reducible exact interregnumref05_HasAS.mono _ _ _)
      | (with_reducible exact LeO.refl _)
      | (with_reducible exact LeO.none _)
      | (with_reducible refine LeO.ite ?_ ?_)
      | (with_reducible refine LeO.bind ?_ (fun _ => ?_))
      | exact ih0 _ _ _ _
      | exact ih1 _ _ _ _ _ _ _ _
      | exact interregnumlaw15_small.mono _ _
      | exact interregnumref05_HasAS.mono _ _ _
      | exact LeO.none _
      | refine LeO.ite ?_ ?_
      | refine LeO.bind ?_ (fun _ => ?_)
set_option maxHeartbeats 8000000 in
set_option maxRecDepth 100000 in
theorem interregnumlaw15_DecideLoops.calls (k : Nat) (a0 : Int) (A1 : Option Addr) (c1 : Nat) (l1 : List (S49)) (A2 : Option Addr) (c2 : Nat) (l2 : List (S41)) (r : Bool) (w : World) (hr1 : Kd.C k49 w A1 l1.length l1) (hc1 : l1.length ≤ c1) (hr2 : Kd.C k41 w A2 l2.length l2) (hc2 : l2.length ≤ c2) (h : interregnumlaw15_DecideLoops.f k a0 l1 l2 = some r) :
    Calls Try.prog 6 #[.int .i64 a0, .slice A1 l1.length c1, .slice A2 l2.length c2] w fun e w' => e = .returned (.bool r) ∧ Below w.heap.size w w' := by
  have HR1 := Aside0.mk hr1
  have HC1 := Aside0.mk hc1
  clear hr1 hc1
  have HR2 := Aside0.mk hr2
  have HC2 := Aside0.mk hc2
  clear hr2 hc2
  have HB := Aside0.mk (Below.refl w.heap.size w)
  have H : ((interregnumlaw15_small.f k l2).bind fun t131 => (if t131 = true then (interregnumlaw15_DecideLoops.j0 k a0 l1 l2 (decide ((l1.length : Int) > 20))) else (interregnumlaw15_DecideLoops.j0 k a0 l1 l2 true))) = some r := h
  clear h
  have HC4 := Aside0.mk H
  clear H
  go_enter Try.func6, Try.ntmps6
  go_upto_region 1 with (fail)
  go_cut [20] (fun v20 wc => ∃ (kq : Nat) (x20_3 : Bool), v20 = .bool x20_3 ∧ Aside0 (interregnumlaw15_DecideLoops.j0 kq a0 l1 l2 x20_3 = some r) ∧ Aside0 (kq ≤ k) ∧ Aside0 (Below w.heap.size w wc))
  case first =>
    have H := HC4.out
    clear HC4
    replace H := Option.bind_eq_some_iff.mp H
    obtain ⟨t131, A50, H⟩ := H
    replace H : (if t131 = true then (interregnumlaw15_DecideLoops.j0 k a0 l1 l2 (decide ((l1.length : Int) > 20))) else (interregnumlaw15_DecideLoops.j0 k a0 l1 l2 true)) = some r := H
    have A5 := Aside0.mk A50
    clear A50
    by_cases c6 : t131 = true
    · subst c6
      have H1 : (interregnumlaw15_DecideLoops.j0 k a0 l1 l2 (decide ((l1.length : Int) > 20))) = some r := by rw [if_pos rfl] at H; exact H
      clear H
      have H := H1
      clear H1
      have H' := Aside0.mk H
      clear H
      go_wp2_with (first | ((with_reducible refine gate_callee (f := 8) rfl ?_); refine goesL_ (some 14) rfl rfl Try.func8 (by kernel_rfl) rfl #[.slice A2 l2.length c2] rfl (by (try simp only [List.map_toArray, List.map_cons, List.map_nil]); first | done | rfl | (simp only [List.length_drop, List.length_take]; rfl)) ?_; (with_reducible refine (interregnumlaw15_small.calls k _ _ l2 true _ ?side1 ?side2 A5.out).mono ?_); (case side1 => repeat (first | exact (Kd.C_below HR2.out HB.out) | (with_reducible refine Kd.C_alloc ?_ _) | (with_reducible refine Kd.C_drewN ?_ _) | (with_reducible refine Kd.C_drew ?_))); (case side2 => exact HC2.out); rintro e w7 ⟨rfl, hb⟩; refine ⟨_, rfl, ?_⟩; have n0_ := Aside0.mk (below_step (by repeat (first | (with_reducible first | exact HB.out | apply below_alloc | apply pw_below_drewN | apply below_drew1) | exact HB.out)) hb); clear HB; have HB := n0_; clear n0_; (try clear hb); (try clear hb2); (try clear hk); (try clear hi)))
      go_meet
      case rel => exact ⟨_, (decide ((l1.length : Int) > 20)), (by first | rfl | (simp; done) | (simp [*]; done)), H', ⟨by first | omega | exact Nat.le_refl _⟩, ⟨by repeat (first | (with_reducible first | exact HB.out | apply below_alloc | apply pw_below_drewN | apply below_drew1) | exact HB.out)⟩⟩
    · replace c6 := Bool.eq_false_iff.mpr c6
      subst c6
      have H1 : (interregnumlaw15_DecideLoops.j0 k a0 l1 l2 true) = some r := by rw [if_neg (show ¬ (false = true) by decide)] at H; exact H
      clear H
      have H := H1
      clear H1
      have H' := Aside0.mk H
      clear H
      go_wp2_with (first | ((with_reducible refine gate_callee (f := 8) rfl ?_); refine goesL_ (some 14) rfl rfl Try.func8 (by kernel_rfl) rfl #[.slice A2 l2.length c2] rfl (by (try simp only [List.map_toArray, List.map_cons, List.map_nil]); first | done | rfl | (simp only [List.length_drop, List.length_take]; rfl)) ?_; (with_reducible refine (interregnumlaw15_small.calls k _ _ l2 false _ ?side1 ?side2 A5.out).mono ?_); (case side1 => repeat (first | exact (Kd.C_below HR2.out HB.out) | (with_reducible refine Kd.C_alloc ?_ _) | (with_reducible refine Kd.C_drewN ?_ _) | (with_reducible refine Kd.C_drew ?_))); (case side2 => exact HC2.out); rintro e w8 ⟨rfl, hb⟩; refine ⟨_, rfl, ?_⟩; have n0_ := Aside0.mk (below_step (by repeat (first | (with_reducible first | exact HB.out | apply below_alloc | apply pw_below_drewN | apply below_drew1) | exact HB.out)) hb); clear HB; have HB := n0_; clear n0_; (try clear hb); (try clear hb2); (try clear hk); (try clear hi)))
      go_meet
      case rel => exact ⟨_, (true), (by first | rfl | (simp; done) | (simp [*]; done)), H', ⟨by first | omega | exact Nat.le_refl _⟩, ⟨by repeat (first | (with_reducible first | exact HB.out | apply below_alloc | apply pw_below_drewN | apply below_drew1) | exact HB.out)⟩⟩
  case rest =>
    clear HC4
    try clear c1
    try clear c2
    try clear p2
    try clear c6
    try clear c8
    obtain ⟨kq, x20_3, rfl, HA, HJ3, HB⟩ := hcut
    cases kq with
    | zero => exact absurd HA.out (by simp [interregnumlaw15_DecideLoops.j0])
    | succ kj3 =>
      have H := HA.out
      clear HA
      simp only [interregnumlaw15_DecideLoops.j0] at H
      by_cases c9 : x20_3 = true
      · subst c9
        have H1 : ((interregnumlaw15_answers.f).bind fun t132 => (some t132)) = some r := by rw [if_pos rfl] at H; exact H
        clear H
        have H := H1
        clear H1
        replace H := Option.bind_eq_some_iff.mp H
        obtain ⟨t132, A100, H⟩ := H
        replace H : (some t132) = some r := H
        have A10 := Aside0.mk A100
        clear A100
        obtain rfl := Option.some.inj H
        go_wp2_with (first | ((with_reducible refine gate_callee (f := 9) rfl ?_); refine goesL_ (some 21) rfl rfl Try.func9 (by kernel_rfl) rfl #[] rfl (by (try simp only [List.map_toArray, List.map_cons, List.map_nil]); first | done | rfl | (simp only [List.length_drop, List.length_take]; rfl)) ?_; (with_reducible refine (interregnumlaw15_answers.calls  t132 _ A10.out).mono ?_); rintro e w11 ⟨rfl, hb⟩; refine ⟨_, rfl, ?_⟩; have n0_ := Aside0.mk (below_step (by repeat (first | (with_reducible first | exact HB.out | apply below_alloc | apply pw_below_drewN | apply below_drew1) | exact HB.out)) hb); clear HB; have HB := n0_; clear n0_; (try clear hb); (try clear hb2); (try clear hk); (try clear hi)))
        go_ret
        exact ⟨by first | rfl | (simp [errW_none, errW_some] <;> rfl) | (simp [*, errW_none, errW_some] <;> rfl), by repeat (first | (with_reducible first | exact HB.out | apply below_alloc | apply pw_below_drewN | apply below_drew1) | exact HB.out)⟩
      · replace c9 := Bool.eq_false_iff.mpr c9
        subst c9
        have H1 : ((decide_Best.f a0 l1 l2).bind fun bt133 => (interregnumlaw15_DecideLoops.l0 kj3 a0 l2 bt133.1 bt133.2 false false false 0)) = some r := by rw [if_neg (show ¬ (false = true) by decide)] at H; exact H
        clear H
        have H := H1
        clear H1
        replace H := Option.bind_eq_some_iff.mp H
        obtain ⟨⟨t133, t134⟩, A120, H⟩ := H
        replace H : (interregnumlaw15_DecideLoops.l0 kj3 a0 l2 t133 t134 false false false 0) = some r := H
        have A12 := Aside0.mk A120
        clear A120
        have H' := Aside0.mk H
        clear H
        go_wp2_with (first | ((with_reducible refine gate_callee (f := 10) rfl ?_); refine goesL_ (some 26) rfl rfl Try.func10 (by kernel_rfl) rfl #[.int .i64 a0, .slice A1 l1.length c1, .slice A2 l2.length c2] rfl (by (try simp only [List.map_toArray, List.map_cons, List.map_nil]); first | done | rfl | (simp only [List.length_drop, List.length_take]; rfl)) ?_; (with_reducible refine (decide_Best.calls a0 _ _ l1 _ _ l2 t133 t134 _ ?side1 ?side2 ?side3 ?side4 A12.out).mono ?_); (case side1 => repeat (first | exact (Kd.C_below HR1.out HB.out) | (with_reducible refine Kd.C_alloc ?_ _) | (with_reducible refine Kd.C_drewN ?_ _) | (with_reducible refine Kd.C_drew ?_))); (case side2 => exact HC1.out); (case side3 => repeat (first | exact (Kd.C_below HR2.out HB.out) | (with_reducible refine Kd.C_alloc ?_ _) | (with_reducible refine Kd.C_drewN ?_ _) | (with_reducible refine Kd.C_drew ?_))); (case side4 => exact HC2.out); rintro e w13 ⟨rfl, hb⟩; refine ⟨_, rfl, ?_⟩; have n0_ := Aside0.mk (below_step (by repeat (first | (with_reducible first | exact HB.out | apply below_alloc | apply pw_below_drewN | apply below_drew1) | exact HB.out)) hb); clear HB; have HB := n0_; clear n0_; (try clear hb); (try clear hb2); (try clear hk); (try clear hi)))
        go_loopg [9, 10, 11, 12] kj3 (fun kq v9 v10 v11 v12 w' => ∃ (x9_2 : Bool) (x10_2 : Bool) (x11_2 : Bool) (x12_2 : Int), v9 = .bool x9_2 ∧ v10 = .bool x10_2 ∧ v11 = .bool x11_2 ∧ v12 = .int .i64 x12_2 ∧ Aside0 (interregnumlaw15_DecideLoops.l0 kq a0 l2 t133 t134 x9_2 x10_2 x11_2 x12_2 = some r) ∧ Aside0 (kq ≤ kj3) ∧ Aside0 (Below w.heap.size w w'))
        case atStart => exact ⟨(false), (false), (false), (0), (by first | rfl | (simp; done) | (simp [*]; done)), (by first | rfl | (simp; done) | (simp [*]; done)), (by first | rfl | (simp; done) | (simp [*]; done)), (by first | rfl | (simp; done) | (simp [*]; done)), H', ⟨Nat.le_refl _⟩, ⟨by repeat (first | (with_reducible first | exact HB.out | apply below_alloc | apply pw_below_drewN | apply below_drew1) | exact HB.out)⟩⟩
        case round =>
          clear H'
          try clear c1
          try clear c2
          try clear p2
          try clear c6
          try clear c8
          try clear c9
          try clear c10
          try clear p2
          obtain ⟨x9_2, x10_2, x11_2, x12_2, rfl, rfl, rfl, rfl, HA, HK2, HB⟩ := hrel
          cases gk with
          | zero => exact absurd HA.out (by simp [interregnumlaw15_DecideLoops.l0])
          | succ k2 =>
            have H := HA.out
            clear HA
            simp only [interregnumlaw15_DecideLoops.l0] at H
            by_cases c14 : x12_2 < (l2.length : Int)
            · rw [if_pos c14] at H
              have c14b0 : decide (x12_2 < (l2.length : Int)) = true := decide_eq_true c14
              clear c14
              by_cases c15 : 0 ≤ x12_2
              · rw [if_pos c15] at H
                have c15b0 : decide (0 ≤ x12_2) = true := decide_eq_true c15
                clear c15
                replace H := Option.bind_eq_some_iff.mp H
                obtain ⟨t136, A160, H⟩ := H
                replace H : (if t136 = true then (interregnumlaw15_DecideLoops.l0 k2 a0 l2 t133 t134 x9_2 x10_2 x11_2 (wrap64 (x12_2 + 1))) else (if x9_2 = true then (if x10_2 = true then (interregnumlaw15_DecideLoops.l0 k2 a0 l2 t133 t134 true true true (wrap64 (x12_2 + 1))) else (interregnumlaw15_DecideLoops.l0 k2 a0 l2 t133 t134 true (decide (((rd_T41 l2 x12_2).f1) < 0)) true (wrap64 (x12_2 + 1)))) else (if x10_2 = true then (interregnumlaw15_DecideLoops.l0 k2 a0 l2 t133 t134 (((rd_T41 l2 x12_2).f3) != 2) true true (wrap64 (x12_2 + 1))) else (interregnumlaw15_DecideLoops.l0 k2 a0 l2 t133 t134 (((rd_T41 l2 x12_2).f3) != 2) (decide (((rd_T41 l2 x12_2).f1) < 0)) true (wrap64 (x12_2 + 1)))))) = some r := H
                have A16 := Aside0.mk A160
                clear A160
                by_cases c17 : t136 = true
                · subst c17
                  have H1 : (interregnumlaw15_DecideLoops.l0 k2 a0 l2 t133 t134 x9_2 x10_2 x11_2 (wrap64 (x12_2 + 1))) = some r := by rw [if_pos rfl] at H; exact H
                  clear H
                  have H := H1
                  clear H1
                  have H' := Aside0.mk H
                  clear H
                  have p135 : 0 ≤ (x12_2 : Int) := of_decide_eq_true (by first | (with_reducible assumption) | assumption)
                  have q135 : x12_2 < (l2.length : Int) := of_decide_eq_true (by first | (with_reducible assumption) | assumption)
                  obtain ⟨ad135, A135_4, c135_4, A135_8, c135_8, A135_9, c135_9, e135, hx135_0, hx135_1, hx135_2, hx135_3, hx135_4, hx135_5, hx135_6, hx135_7, hx135_8, hx135_9, hx135_10, hl135_4, hi135_4, hl135_8, hi135_8, hl135_9, hi135_9⟩ := at_T41 HR2.out x12_2 p135 q135
                  cases e135
                  replace hx135_0 := (HB.out.cell (World.block_lt_of_cell? w _ hx135_0)).trans hx135_0
                  replace hx135_1 := (HB.out.cell (World.block_lt_of_cell? w _ hx135_1)).trans hx135_1
                  replace hx135_2 := (HB.out.cell (World.block_lt_of_cell? w _ hx135_2)).trans hx135_2
                  replace hx135_3 := (HB.out.cell (World.block_lt_of_cell? w _ hx135_3)).trans hx135_3
                  replace hx135_4 := (HB.out.cell (World.block_lt_of_cell? w _ hx135_4)).trans hx135_4
                  replace hx135_5 := (HB.out.cell (World.block_lt_of_cell? w _ hx135_5)).trans hx135_5
                  replace hx135_6 := (HB.out.cell (World.block_lt_of_cell? w _ hx135_6)).trans hx135_6
                  replace hx135_7 := (HB.out.cell (World.block_lt_of_cell? w _ hx135_7)).trans hx135_7
                  replace hx135_8 := (HB.out.cell (World.block_lt_of_cell? w _ hx135_8)).trans hx135_8
                  replace hx135_9 := (HB.out.cell (World.block_lt_of_cell? w _ hx135_9)).trans hx135_9
                  replace hx135_10 := (HB.out.cell (World.block_lt_of_cell? w _ hx135_10)).trans hx135_10
                  have HR135_4 := Aside0.mk hi135_4
                  have HC135_4 := Aside0.mk hl135_4
                  clear hi135_4 hl135_4
                  have HR135_8 := Aside0.mk hi135_8
                  have HC135_8 := Aside0.mk hl135_8
                  clear hi135_8 hl135_8
                  have HR135_9 := Aside0.mk hi135_9
                  have HC135_9 := Aside0.mk hl135_9
                  clear hi135_9 hl135_9
                  replace p135 := eq_true p135
                  replace q135 := eq_true q135
                  go_wp2_with (first | ((with_reducible refine gate_callee (f := 13) rfl ?_); refine goesL_ (some 42) rfl rfl Try.func13 (by kernel_rfl) rfl #[.slice A135_4 ((rd_T41 l2 x12_2).f2.f1).length c135_4, .int .i64 a0] rfl (by (try simp only [List.map_toArray, List.map_cons, List.map_nil]); first | done | rfl | (simp only [List.length_drop, List.length_take]; rfl)) ?_; (with_reducible refine (interregnumref05_HasAS.calls k2 _ _ ((rd_T41 l2 x12_2).f2.f1) a0 true _ ?side1 ?side2 A16.out).mono ?_); (case side1 => repeat (first | exact (Kd.C_below HR135_4.out HB.out) | (with_reducible refine Kd.C_alloc ?_ _) | (with_reducible refine Kd.C_drewN ?_ _) | (with_reducible refine Kd.C_drew ?_))); (case side2 => exact HC135_4.out); rintro e w' ⟨rfl, ⟨nd, rfl⟩⟩; refine ⟨_, rfl, ?_⟩))
                  go_roundg k2
                  case measure => have := HJ3.out; have := HK2.out; omega
                  case rel => exact ⟨(x9_2), (x10_2), (x11_2), (wrap64 (x12_2 + 1)), (by first | rfl | (simp; done) | (simp [*]; done)), (by first | rfl | (simp; done) | (simp [*]; done)), (by first | rfl | (simp; done) | (simp [*]; done)), (by first | rfl | (simp; done) | (simp [*]; done)), H', ⟨by have := HJ3.out; have := HK2.out; omega⟩, ⟨by repeat (first | (with_reducible first | exact HB.out | apply below_alloc | apply pw_below_drewN | apply below_drew1) | exact HB.out)⟩⟩
                · replace c17 := Bool.eq_false_iff.mpr c17
                  subst c17
                  have H1 : (if x9_2 = true then (if x10_2 = true then (interregnumlaw15_DecideLoops.l0 k2 a0 l2 t133 t134 true true true (wrap64 (x12_2 + 1))) else (interregnumlaw15_DecideLoops.l0 k2 a0 l2 t133 t134 true (decide (((rd_T41 l2 x12_2).f1) < 0)) true (wrap64 (x12_2 + 1)))) else (if x10_2 = true then (interregnumlaw15_DecideLoops.l0 k2 a0 l2 t133 t134 (((rd_T41 l2 x12_2).f3) != 2) true true (wrap64 (x12_2 + 1))) else (interregnumlaw15_DecideLoops.l0 k2 a0 l2 t133 t134 (((rd_T41 l2 x12_2).f3) != 2) (decide (((rd_T41 l2 x12_2).f1) < 0)) true (wrap64 (x12_2 + 1))))) = some r := by rw [if_neg (show ¬ (false = true) by decide)] at H; exact H
                  clear H
                  have H := H1
                  clear H1
                  by_cases c18 : x9_2 = true
                  · subst c18
                    have H1 : (if x10_2 = true then (interregnumlaw15_DecideLoops.l0 k2 a0 l2 t133 t134 true true true (wrap64 (x12_2 + 1))) else (interregnumlaw15_DecideLoops.l0 k2 a0 l2 t133 t134 true (decide (((rd_T41 l2 x12_2).f1) < 0)) true (wrap64 (x12_2 + 1)))) = some r := by rw [if_pos rfl] at H; exact H
                    clear H
                    have H := H1
                    clear H1
                    by_cases c19 : x10_2 = true
                    · subst c19
                      have H1 : (interregnumlaw15_DecideLoops.l0 k2 a0 l2 t133 t134 true true true (wrap64 (x12_2 + 1))) = some r := by rw [if_pos rfl] at H; exact H
                      clear H
                      have H := H1
                      clear H1
                      have H' := Aside0.mk H
                      clear H
                      have p135 : 0 ≤ (x12_2 : Int) := of_decide_eq_true (by first | (with_reducible assumption) | assumption)
                      have q135 : x12_2 < (l2.length : Int) := of_decide_eq_true (by first | (with_reducible assumption) | assumption)
                      obtain ⟨ad135, A135_4, c135_4, A135_8, c135_8, A135_9, c135_9, e135, hx135_0, hx135_1, hx135_2, hx135_3, hx135_4, hx135_5, hx135_6, hx135_7, hx135_8, hx135_9, hx135_10, hl135_4, hi135_4, hl135_8, hi135_8, hl135_9, hi135_9⟩ := at_T41 HR2.out x12_2 p135 q135
                      cases e135
                      replace hx135_0 := (HB.out.cell (World.block_lt_of_cell? w _ hx135_0)).trans hx135_0
                      replace hx135_1 := (HB.out.cell (World.block_lt_of_cell? w _ hx135_1)).trans hx135_1
                      replace hx135_2 := (HB.out.cell (World.block_lt_of_cell? w _ hx135_2)).trans hx135_2
                      replace hx135_3 := (HB.out.cell (World.block_lt_of_cell? w _ hx135_3)).trans hx135_3
                      replace hx135_4 := (HB.out.cell (World.block_lt_of_cell? w _ hx135_4)).trans hx135_4
                      replace hx135_5 := (HB.out.cell (World.block_lt_of_cell? w _ hx135_5)).trans hx135_5
                      replace hx135_6 := (HB.out.cell (World.block_lt_of_cell? w _ hx135_6)).trans hx135_6
                      replace hx135_7 := (HB.out.cell (World.block_lt_of_cell? w _ hx135_7)).trans hx135_7
                      replace hx135_8 := (HB.out.cell (World.block_lt_of_cell? w _ hx135_8)).trans hx135_8
                      replace hx135_9 := (HB.out.cell (World.block_lt_of_cell? w _ hx135_9)).trans hx135_9
                      replace hx135_10 := (HB.out.cell (World.block_lt_of_cell? w _ hx135_10)).trans hx135_10
                      have HR135_4 := Aside0.mk hi135_4
                      have HC135_4 := Aside0.mk hl135_4
                      clear hi135_4 hl135_4
                      have HR135_8 := Aside0.mk hi135_8
                      have HC135_8 := Aside0.mk hl135_8
                      clear hi135_8 hl135_8
                      have HR135_9 := Aside0.mk hi135_9
                      have HC135_9 := Aside0.mk hl135_9
                      clear hi135_9 hl135_9
                      replace p135 := eq_true p135
                      replace q135 := eq_true q135
                      go_wp2_with (first | ((with_reducible refine gate_callee (f := 13) rfl ?_); refine goesL_ (some 42) rfl rfl Try.func13 (by kernel_rfl) rfl #[.slice A135_4 ((rd_T41 l2 x12_2).f2.f1).length c135_4, .int .i64 a0] rfl (by (try simp only [List.map_toArray, List.map_cons, List.map_nil]); first | done | rfl | (simp only [List.length_drop, List.length_take]; rfl)) ?_; (with_reducible refine (interregnumref05_HasAS.calls k2 _ _ ((rd_T41 l2 x12_2).f2.f1) a0 false _ ?side1 ?side2 A16.out).mono ?_); (case side1 => repeat (first | exact (Kd.C_below HR135_4.out HB.out) | (with_reducible refine Kd.C_alloc ?_ _) | (with_reducible refine Kd.C_drewN ?_ _) | (with_reducible refine Kd.C_drew ?_))); (case side2 => exact HC135_4.out); rintro e w' ⟨rfl, ⟨nd, rfl⟩⟩; refine ⟨_, rfl, ?_⟩))
                      go_roundg k2
                      case measure => have := HJ3.out; have := HK2.out; omega
                      case rel => exact ⟨(true), (true), (true), (wrap64 (x12_2 + 1)), (by first | rfl | (simp; done) | (simp [*]; done)), (by first | rfl | (simp; done) | (simp [*]; done)), (by first | rfl | (simp; done) | (simp [*]; done)), (by first | rfl | (simp; done) | (simp [*]; done)), H', ⟨by have := HJ3.out; have := HK2.out; omega⟩, ⟨by repeat (first | (with_reducible first | exact HB.out | apply below_alloc | apply pw_below_drewN | apply below_drew1) | exact HB.out)⟩⟩
                    · replace c19 := Bool.eq_false_iff.mpr c19
                      subst c19
                      have H1 : (interregnumlaw15_DecideLoops.l0 k2 a0 l2 t133 t134 true (decide (((rd_T41 l2 x12_2).f1) < 0)) true (wrap64 (x12_2 + 1))) = some r := by rw [if_neg (show ¬ (false = true) by decide)] at H; exact H
                      clear H
                      have H := H1
                      clear H1
                      have H' := Aside0.mk H
                      clear H
                      have p135 : 0 ≤ (x12_2 : Int) := of_decide_eq_true (by first | (with_reducible assumption) | assumption)
                      have q135 : x12_2 < (l2.length : Int) := of_decide_eq_true (by first | (with_reducible assumption) | assumption)
                      obtain ⟨ad135, A135_4, c135_4, A135_8, c135_8, A135_9, c135_9, e135, hx135_0, hx135_1, hx135_2, hx135_3, hx135_4, hx135_5, hx135_6, hx135_7, hx135_8, hx135_9, hx135_10, hl135_4, hi135_4, hl135_8, hi135_8, hl135_9, hi135_9⟩ := at_T41 HR2.out x12_2 p135 q135
                      cases e135
                      replace hx135_0 := (HB.out.cell (World.block_lt_of_cell? w _ hx135_0)).trans hx135_0
                      replace hx135_1 := (HB.out.cell (World.block_lt_of_cell? w _ hx135_1)).trans hx135_1
                      replace hx135_2 := (HB.out.cell (World.block_lt_of_cell? w _ hx135_2)).trans hx135_2
                      replace hx135_3 := (HB.out.cell (World.block_lt_of_cell? w _ hx135_3)).trans hx135_3
                      replace hx135_4 := (HB.out.cell (World.block_lt_of_cell? w _ hx135_4)).trans hx135_4
                      replace hx135_5 := (HB.out.cell (World.block_lt_of_cell? w _ hx135_5)).trans hx135_5
                      replace hx135_6 := (HB.out.cell (World.block_lt_of_cell? w _ hx135_6)).trans hx135_6
                      replace hx135_7 := (HB.out.cell (World.block_lt_of_cell? w _ hx135_7)).trans hx135_7
                      replace hx135_8 := (HB.out.cell (World.block_lt_of_cell? w _ hx135_8)).trans hx135_8
                      replace hx135_9 := (HB.out.cell (World.block_lt_of_cell? w _ hx135_9)).trans hx135_9
                      replace hx135_10 := (HB.out.cell (World.block_lt_of_cell? w _ hx135_10)).trans hx135_10
                      have HR135_4 := Aside0.mk hi135_4
                      have HC135_4 := Aside0.mk hl135_4
                      clear hi135_4 hl135_4
                      have HR135_8 := Aside0.mk hi135_8
                      have HC135_8 := Aside0.mk hl135_8
                      clear hi135_8 hl135_8
                      have HR135_9 := Aside0.mk hi135_9
                      have HC135_9 := Aside0.mk hl135_9
                      clear hi135_9 hl135_9
                      replace p135 := eq_true p135
                      replace q135 := eq_true q135
                      go_wp2_with (first | ((with_reducible refine gate_callee (f := 13) rfl ?_); refine goesL_ (some 42) rfl rfl Try.func13 (by kernel_rfl) rfl #[.slice A135_4 ((rd_T41 l2 x12_2).f2.f1).length c135_4, .int .i64 a0] rfl (by (try simp only [List.map_toArray, List.map_cons, List.map_nil]); first | done | rfl | (simp only [List.length_drop, List.length_take]; rfl)) ?_; (with_reducible refine (interregnumref05_HasAS.calls k2 _ _ ((rd_T41 l2 x12_2).f2.f1) a0 false _ ?side1 ?side2 A16.out).mono ?_); (case side1 => repeat (first | exact (Kd.C_below HR135_4.out HB.out) | (with_reducible refine Kd.C_alloc ?_ _) | (with_reducible refine Kd.C_drewN ?_ _) | (with_reducible refine Kd.C_drew ?_))); (case side2 => exact HC135_4.out); rintro e w' ⟨rfl, ⟨nd, rfl⟩⟩; refine ⟨_, rfl, ?_⟩; have p137 : 0 ≤ (x12_2 : Int) := of_decide_eq_true (by first | (with_reducible assumption) | assumption); have q137 : x12_2 < (l2.length : Int) := of_decide_eq_true (by first | (with_reducible assumption) | assumption); obtain ⟨ad137, A137_4, c137_4, A137_8, c137_8, A137_9, c137_9, e137, hx137_0, hx137_1, hx137_2, hx137_3, hx137_4, hx137_5, hx137_6, hx137_7, hx137_8, hx137_9, hx137_10, hl137_4, hi137_4, hl137_8, hi137_8, hl137_9, hi137_9⟩ := at_T41 HR2.out x12_2 p137 q137; obtain rfl : ad135 = ad137 := (by injection e137); replace hx137_0 := (HB.out.cell (World.block_lt_of_cell? w _ hx137_0)).trans hx137_0; replace hx137_1 := (HB.out.cell (World.block_lt_of_cell? w _ hx137_1)).trans hx137_1; replace hx137_2 := (HB.out.cell (World.block_lt_of_cell? w _ hx137_2)).trans hx137_2; replace hx137_3 := (HB.out.cell (World.block_lt_of_cell? w _ hx137_3)).trans hx137_3; replace hx137_4 := (HB.out.cell (World.block_lt_of_cell? w _ hx137_4)).trans hx137_4; replace hx137_5 := (HB.out.cell (World.block_lt_of_cell? w _ hx137_5)).trans hx137_5; replace hx137_6 := (HB.out.cell (World.block_lt_of_cell? w _ hx137_6)).trans hx137_6; replace hx137_7 := (HB.out.cell (World.block_lt_of_cell? w _ hx137_7)).trans hx137_7; replace hx137_8 := (HB.out.cell (World.block_lt_of_cell? w _ hx137_8)).trans hx137_8; replace hx137_9 := (HB.out.cell (World.block_lt_of_cell? w _ hx137_9)).trans hx137_9; replace hx137_10 := (HB.out.cell (World.block_lt_of_cell? w _ hx137_10)).trans hx137_10; have HR137_4 := Aside0.mk hi137_4; have HC137_4 := Aside0.mk hl137_4; clear hi137_4 hl137_4; have HR137_8 := Aside0.mk hi137_8; have HC137_8 := Aside0.mk hl137_8; clear hi137_8 hl137_8; have HR137_9 := Aside0.mk hi137_9; have HC137_9 := Aside0.mk hl137_9; clear hi137_9 hl137_9; replace p137 := eq_true p137; replace q137 := eq_true q137; have ea_ := Option.some.inj (hx135_4.symm.trans hx137_4); injection ea_ with ea_ en_ ec_; subst ea_; subst ec_; clear en_; have ea_ := Option.some.inj (hx135_8.symm.trans hx137_8); injection ea_ with ea_ en_ ec_; subst ea_; subst ec_; clear en_; have ea_ := Option.some.inj (hx135_9.symm.trans hx137_9); injection ea_ with ea_ en_ ec_; subst ea_; subst ec_; clear en_))
                      go_roundg k2
                      case measure => have := HJ3.out; have := HK2.out; omega
                      case rel => exact ⟨(true), (decide (((rd_T41 l2 x12_2).f1) < 0)), (true), (wrap64 (x12_2 + 1)), (by first | rfl | (simp; done) | (simp [*]; done)), (by first | rfl | (simp; done) | (simp [*]; done)), (by first | rfl | (simp; done) | (simp [*]; done)), (by first | rfl | (simp; done) | (simp [*]; done)), H', ⟨by have := HJ3.out; have := HK2.out; omega⟩, ⟨by repeat (first | (with_reducible first | exact HB.out | apply below_alloc | apply pw_below_drewN | apply below_drew1) | exact HB.out)⟩⟩
                  · replace c18 := Bool.eq_false_iff.mpr c18
                    subst c18
                    have H1 : (if x10_2 = true then (interregnumlaw15_DecideLoops.l0 k2 a0 l2 t133 t134 (((rd_T41 l2 x12_2).f3) != 2) true true (wrap64 (x12_2 + 1))) else (interregnumlaw15_DecideLoops.l0 k2 a0 l2 t133 t134 (((rd_T41 l2 x12_2).f3) != 2) (decide (((rd_T41 l2 x12_2).f1) < 0)) true (wrap64 (x12_2 + 1)))) = some r := by rw [if_neg (show ¬ (false = true) by decide)] at H; exact H
                    clear H
                    have H := H1
                    clear H1
                    by_cases c20 : x10_2 = true
                    · subst c20
                      have H1 : (interregnumlaw15_DecideLoops.l0 k2 a0 l2 t133 t134 (((rd_T41 l2 x12_2).f3) != 2) true true (wrap64 (x12_2 + 1))) = some r := by rw [if_pos rfl] at H; exact H
                      clear H
                      have H := H1
                      clear H1
                      have H' := Aside0.mk H
                      clear H
                      have p135 : 0 ≤ (x12_2 : Int) := of_decide_eq_true (by first | (with_reducible assumption) | assumption)
                      have q135 : x12_2 < (l2.length : Int) := of_decide_eq_true (by first | (with_reducible assumption) | assumption)
                      obtain ⟨ad135, A135_4, c135_4, A135_8, c135_8, A135_9, c135_9, e135, hx135_0, hx135_1, hx135_2, hx135_3, hx135_4, hx135_5, hx135_6, hx135_7, hx135_8, hx135_9, hx135_10, hl135_4, hi135_4, hl135_8, hi135_8, hl135_9, hi135_9⟩ := at_T41 HR2.out x12_2 p135 q135
                      cases e135
                      replace hx135_0 := (HB.out.cell (World.block_lt_of_cell? w _ hx135_0)).trans hx135_0
                      replace hx135_1 := (HB.out.cell (World.block_lt_of_cell? w _ hx135_1)).trans hx135_1
                      replace hx135_2 := (HB.out.cell (World.block_lt_of_cell? w _ hx135_2)).trans hx135_2
                      replace hx135_3 := (HB.out.cell (World.block_lt_of_cell? w _ hx135_3)).trans hx135_3
                      replace hx135_4 := (HB.out.cell (World.block_lt_of_cell? w _ hx135_4)).trans hx135_4
                      replace hx135_5 := (HB.out.cell (World.block_lt_of_cell? w _ hx135_5)).trans hx135_5
                      replace hx135_6 := (HB.out.cell (World.block_lt_of_cell? w _ hx135_6)).trans hx135_6
                      replace hx135_7 := (HB.out.cell (World.block_lt_of_cell? w _ hx135_7)).trans hx135_7
                      replace hx135_8 := (HB.out.cell (World.block_lt_of_cell? w _ hx135_8)).trans hx135_8
                      replace hx135_9 := (HB.out.cell (World.block_lt_of_cell? w _ hx135_9)).trans hx135_9
                      replace hx135_10 := (HB.out.cell (World.block_lt_of_cell? w _ hx135_10)).trans hx135_10
                      have HR135_4 := Aside0.mk hi135_4
                      have HC135_4 := Aside0.mk hl135_4
                      clear hi135_4 hl135_4
                      have HR135_8 := Aside0.mk hi135_8
                      have HC135_8 := Aside0.mk hl135_8
                      clear hi135_8 hl135_8
                      have HR135_9 := Aside0.mk hi135_9
                      have HC135_9 := Aside0.mk hl135_9
                      clear hi135_9 hl135_9
                      replace p135 := eq_true p135
                      replace q135 := eq_true q135
                      go_wp2_with (first | ((with_reducible refine gate_callee (f := 13) rfl ?_); refine goesL_ (some 42) rfl rfl Try.func13 (by kernel_rfl) rfl #[.slice A135_4 ((rd_T41 l2 x12_2).f2.f1).length c135_4, .int .i64 a0] rfl (by (try simp only [List.map_toArray, List.map_cons, List.map_nil]); first | done | rfl | (simp only [List.length_drop, List.length_take]; rfl)) ?_; (with_reducible refine (interregnumref05_HasAS.calls k2 _ _ ((rd_T41 l2 x12_2).f2.f1) a0 false _ ?side1 ?side2 A16.out).mono ?_); (case side1 => repeat (first | exact (Kd.C_below HR135_4.out HB.out) | (with_reducible refine Kd.C_alloc ?_ _) | (with_reducible refine Kd.C_drewN ?_ _) | (with_reducible refine Kd.C_drew ?_))); (case side2 => exact HC135_4.out); rintro e w' ⟨rfl, ⟨nd, rfl⟩⟩; refine ⟨_, rfl, ?_⟩; have p138 : 0 ≤ (x12_2 : Int) := of_decide_eq_true (by first | (with_reducible assumption) | assumption); have q138 : x12_2 < (l2.length : Int) := of_decide_eq_true (by first | (with_reducible assumption) | assumption); obtain ⟨ad138, A138_4, c138_4, A138_8, c138_8, A138_9, c138_9, e138, hx138_0, hx138_1, hx138_2, hx138_3, hx138_4, hx138_5, hx138_6, hx138_7, hx138_8, hx138_9, hx138_10, hl138_4, hi138_4, hl138_8, hi138_8, hl138_9, hi138_9⟩ := at_T41 HR2.out x12_2 p138 q138; obtain rfl : ad135 = ad138 := (by injection e138); replace hx138_0 := (HB.out.cell (World.block_lt_of_cell? w _ hx138_0)).trans hx138_0; replace hx138_1 := (HB.out.cell (World.block_lt_of_cell? w _ hx138_1)).trans hx138_1; replace hx138_2 := (HB.out.cell (World.block_lt_of_cell? w _ hx138_2)).trans hx138_2; replace hx138_3 := (HB.out.cell (World.block_lt_of_cell? w _ hx138_3)).trans hx138_3; replace hx138_4 := (HB.out.cell (World.block_lt_of_cell? w _ hx138_4)).trans hx138_4; replace hx138_5 := (HB.out.cell (World.block_lt_of_cell? w _ hx138_5)).trans hx138_5; replace hx138_6 := (HB.out.cell (World.block_lt_of_cell? w _ hx138_6)).trans hx138_6; replace hx138_7 := (HB.out.cell (World.block_lt_of_cell? w _ hx138_7)).trans hx138_7; replace hx138_8 := (HB.out.cell (World.block_lt_of_cell? w _ hx138_8)).trans hx138_8; replace hx138_9 := (HB.out.cell (World.block_lt_of_cell? w _ hx138_9)).trans hx138_9; replace hx138_10 := (HB.out.cell (World.block_lt_of_cell? w _ hx138_10)).trans hx138_10; have HR138_4 := Aside0.mk hi138_4; have HC138_4 := Aside0.mk hl138_4; clear hi138_4 hl138_4; have HR138_8 := Aside0.mk hi138_8; have HC138_8 := Aside0.mk hl138_8; clear hi138_8 hl138_8; have HR138_9 := Aside0.mk hi138_9; have HC138_9 := Aside0.mk hl138_9; clear hi138_9 hl138_9; replace p138 := eq_true p138; replace q138 := eq_true q138; have ea_ := Option.some.inj (hx135_4.symm.trans hx138_4); injection ea_ with ea_ en_ ec_; subst ea_; subst ec_; clear en_; have ea_ := Option.some.inj (hx135_8.symm.trans hx138_8); injection ea_ with ea_ en_ ec_; subst ea_; subst ec_; clear en_; have ea_ := Option.some.inj (hx135_9.symm.trans hx138_9); injection ea_ with ea_ en_ ec_; subst ea_; subst ec_; clear en_))
                      go_roundg k2
                      case measure => have := HJ3.out; have := HK2.out; omega
                      case rel => exact ⟨((((rd_T41 l2 x12_2).f3) != 2)), (true), (true), (wrap64 (x12_2 + 1)), (by first | rfl | (simp; done) | (simp [*]; done)), (by first | rfl | (simp; done) | (simp [*]; done)), (by first | rfl | (simp; done) | (simp [*]; done)), (by first | rfl | (simp; done) | (simp [*]; done)), H', ⟨by have := HJ3.out; have := HK2.out; omega⟩, ⟨by repeat (first | (with_reducible first | exact HB.out | apply below_alloc | apply pw_below_drewN | apply below_drew1) | exact HB.out)⟩⟩
                    · replace c20 := Bool.eq_false_iff.mpr c20
                      subst c20
                      have H1 : (interregnumlaw15_DecideLoops.l0 k2 a0 l2 t133 t134 (((rd_T41 l2 x12_2).f3) != 2) (decide (((rd_T41 l2 x12_2).f1) < 0)) true (wrap64 (x12_2 + 1))) = some r := by rw [if_neg (show ¬ (false = true) by decide)] at H; exact H
                      clear H
                      have H := H1
                      clear H1
                      have H' := Aside0.mk H
                      clear H
                      have p135 : 0 ≤ (x12_2 : Int) := of_decide_eq_true (by first | (with_reducible assumption) | assumption)
                      have q135 : x12_2 < (l2.length : Int) := of_decide_eq_true (by first | (with_reducible assumption) | assumption)
                      obtain ⟨ad135, A135_4, c135_4, A135_8, c135_8, A135_9, c135_9, e135, hx135_0, hx135_1, hx135_2, hx135_3, hx135_4, hx135_5, hx135_6, hx135_7, hx135_8, hx135_9, hx135_10, hl135_4, hi135_4, hl135_8, hi135_8, hl135_9, hi135_9⟩ := at_T41 HR2.out x12_2 p135 q135
                      cases e135
                      replace hx135_0 := (HB.out.cell (World.block_lt_of_cell? w _ hx135_0)).trans hx135_0
                      replace hx135_1 := (HB.out.cell (World.block_lt_of_cell? w _ hx135_1)).trans hx135_1
                      replace hx135_2 := (HB.out.cell (World.block_lt_of_cell? w _ hx135_2)).trans hx135_2
                      replace hx135_3 := (HB.out.cell (World.block_lt_of_cell? w _ hx135_3)).trans hx135_3
                      replace hx135_4 := (HB.out.cell (World.block_lt_of_cell? w _ hx135_4)).trans hx135_4
                      replace hx135_5 := (HB.out.cell (World.block_lt_of_cell? w _ hx135_5)).trans hx135_5
                      replace hx135_6 := (HB.out.cell (World.block_lt_of_cell? w _ hx135_6)).trans hx135_6
                      replace hx135_7 := (HB.out.cell (World.block_lt_of_cell? w _ hx135_7)).trans hx135_7
                      replace hx135_8 := (HB.out.cell (World.block_lt_of_cell? w _ hx135_8)).trans hx135_8
                      replace hx135_9 := (HB.out.cell (World.block_lt_of_cell? w _ hx135_9)).trans hx135_9
                      replace hx135_10 := (HB.out.cell (World.block_lt_of_cell? w _ hx135_10)).trans hx135_10
                      have HR135_4 := Aside0.mk hi135_4
                      have HC135_4 := Aside0.mk hl135_4
                      clear hi135_4 hl135_4
                      have HR135_8 := Aside0.mk hi135_8
                      have HC135_8 := Aside0.mk hl135_8
                      clear hi135_8 hl135_8
                      have HR135_9 := Aside0.mk hi135_9
                      have HC135_9 := Aside0.mk hl135_9
                      clear hi135_9 hl135_9
                      replace p135 := eq_true p135
                      replace q135 := eq_true q135
                      go_wp2_with (first | ((with_reducible refine gate_callee (f := 13) rfl ?_); refine goesL_ (some 42) rfl rfl Try.func13 (by kernel_rfl) rfl #[.slice A135_4 ((rd_T41 l2 x12_2).f2.f1).length c135_4, .int .i64 a0] rfl (by (try simp only [List.map_toArray, List.map_cons, List.map_nil]); first | done | rfl | (simp only [List.length_drop, List.length_take]; rfl)) ?_; (with_reducible refine (interregnumref05_HasAS.calls k2 _ _ ((rd_T41 l2 x12_2).f2.f1) a0 false _ ?side1 ?side2 A16.out).mono ?_); (case side1 => repeat (first | exact (Kd.C_below HR135_4.out HB.out) | (with_reducible refine Kd.C_alloc ?_ _) | (with_reducible refine Kd.C_drewN ?_ _) | (with_reducible refine Kd.C_drew ?_))); (case side2 => exact HC135_4.out); rintro e w' ⟨rfl, ⟨nd, rfl⟩⟩; refine ⟨_, rfl, ?_⟩; have p138 : 0 ≤ (x12_2 : Int) := of_decide_eq_true (by first | (with_reducible assumption) | assumption); have q138 : x12_2 < (l2.length : Int) := of_decide_eq_true (by first | (with_reducible assumption) | assumption); obtain ⟨ad138, A138_4, c138_4, A138_8, c138_8, A138_9, c138_9, e138, hx138_0, hx138_1, hx138_2, hx138_3, hx138_4, hx138_5, hx138_6, hx138_7, hx138_8, hx138_9, hx138_10, hl138_4, hi138_4, hl138_8, hi138_8, hl138_9, hi138_9⟩ := at_T41 HR2.out x12_2 p138 q138; obtain rfl : ad135 = ad138 := (by injection e138); replace hx138_0 := (HB.out.cell (World.block_lt_of_cell? w _ hx138_0)).trans hx138_0; replace hx138_1 := (HB.out.cell (World.block_lt_of_cell? w _ hx138_1)).trans hx138_1; replace hx138_2 := (HB.out.cell (World.block_lt_of_cell? w _ hx138_2)).trans hx138_2; replace hx138_3 := (HB.out.cell (World.block_lt_of_cell? w _ hx138_3)).trans hx138_3; replace hx138_4 := (HB.out.cell (World.block_lt_of_cell? w _ hx138_4)).trans hx138_4; replace hx138_5 := (HB.out.cell (World.block_lt_of_cell? w _ hx138_5)).trans hx138_5; replace hx138_6 := (HB.out.cell (World.block_lt_of_cell? w _ hx138_6)).trans hx138_6; replace hx138_7 := (HB.out.cell (World.block_lt_of_cell? w _ hx138_7)).trans hx138_7; replace hx138_8 := (HB.out.cell (World.block_lt_of_cell? w _ hx138_8)).trans hx138_8; replace hx138_9 := (HB.out.cell (World.block_lt_of_cell? w _ hx138_9)).trans hx138_9; replace hx138_10 := (HB.out.cell (World.block_lt_of_cell? w _ hx138_10)).trans hx138_10; have HR138_4 := Aside0.mk hi138_4; have HC138_4 := Aside0.mk hl138_4; clear hi138_4 hl138_4; have HR138_8 := Aside0.mk hi138_8; have HC138_8 := Aside0.mk hl138_8; clear hi138_8 hl138_8; have HR138_9 := Aside0.mk hi138_9; have HC138_9 := Aside0.mk hl138_9; clear hi138_9 hl138_9; replace p138 := eq_true p138; replace q138 := eq_true q138; have ea_ := Option.some.inj (hx135_4.symm.trans hx138_4); injection ea_ with ea_ en_ ec_; subst ea_; subst ec_; clear en_; have ea_ := Option.some.inj (hx135_8.symm.trans hx138_8); injection ea_ with ea_ en_ ec_; subst ea_; subst ec_; clear en_; have ea_ := Option.some.inj (hx135_9.symm.trans hx138_9); injection ea_ with ea_ en_ ec_; subst ea_; subst ec_; clear en_; have p139 : 0 ≤ (x12_2 : Int) := of_decide_eq_true (by first | (with_reducible assumption) | assumption); have q139 : x12_2 < (l2.length : Int) := of_decide_eq_true (by first | (with_reducible assumption) | assumption); obtain ⟨ad139, A139_4, c139_4, A139_8, c139_8, A139_9, c139_9, e139, hx139_0, hx139_1, hx139_2, hx139_3, hx139_4, hx139_5, hx139_6, hx139_7, hx139_8, hx139_9, hx139_10, hl139_4, hi139_4, hl139_8, hi139_8, hl139_9, hi139_9⟩ := at_T41 HR2.out x12_2 p139 q139; obtain rfl : ad135 = ad139 := (by injection e139); replace hx139_0 := (HB.out.cell (World.block_lt_of_cell? w _ hx139_0)).trans hx139_0; replace hx139_1 := (HB.out.cell (World.block_lt_of_cell? w _ hx139_1)).trans hx139_1; replace hx139_2 := (HB.out.cell (World.block_lt_of_cell? w _ hx139_2)).trans hx139_2; replace hx139_3 := (HB.out.cell (World.block_lt_of_cell? w _ hx139_3)).trans hx139_3; replace hx139_4 := (HB.out.cell (World.block_lt_of_cell? w _ hx139_4)).trans hx139_4; replace hx139_5 := (HB.out.cell (World.block_lt_of_cell? w _ hx139_5)).trans hx139_5; replace hx139_6 := (HB.out.cell (World.block_lt_of_cell? w _ hx139_6)).trans hx139_6; replace hx139_7 := (HB.out.cell (World.block_lt_of_cell? w _ hx139_7)).trans hx139_7; replace hx139_8 := (HB.out.cell (World.block_lt_of_cell? w _ hx139_8)).trans hx139_8; replace hx139_9 := (HB.out.cell (World.block_lt_of_cell? w _ hx139_9)).trans hx139_9; replace hx139_10 := (HB.out.cell (World.block_lt_of_cell? w _ hx139_10)).trans hx139_10; have HR139_4 := Aside0.mk hi139_4; have HC139_4 := Aside0.mk hl139_4; clear hi139_4 hl139_4; have HR139_8 := Aside0.mk hi139_8; have HC139_8 := Aside0.mk hl139_8; clear hi139_8 hl139_8; have HR139_9 := Aside0.mk hi139_9; have HC139_9 := Aside0.mk hl139_9; clear hi139_9 hl139_9; replace p139 := eq_true p139; replace q139 := eq_true q139; have ea_ := Option.some.inj (hx135_4.symm.trans hx139_4); injection ea_ with ea_ en_ ec_; subst ea_; subst ec_; clear en_; have ea_ := Option.some.inj (hx135_8.symm.trans hx139_8); injection ea_ with ea_ en_ ec_; subst ea_; subst ec_; clear en_; have ea_ := Option.some.inj (hx135_9.symm.trans hx139_9); injection ea_ with ea_ en_ ec_; subst ea_; subst ec_; clear en_))
                      go_roundg k2
                      case measure => have := HJ3.out; have := HK2.out; omega
                      case rel => exact ⟨((((rd_T41 l2 x12_2).f3) != 2)), (decide (((rd_T41 l2 x12_2).f1) < 0)), (true), (wrap64 (x12_2 + 1)), (by first | rfl | (simp; done) | (simp [*]; done)), (by first | rfl | (simp; done) | (simp [*]; done)), (by first | rfl | (simp; done) | (simp [*]; done)), (by first | rfl | (simp; done) | (simp [*]; done)), H', ⟨by have := HJ3.out; have := HK2.out; omega⟩, ⟨by repeat (first | (with_reducible first | exact HB.out | apply below_alloc | apply pw_below_drewN | apply below_drew1) | exact HB.out)⟩⟩
              · rw [if_neg c15] at H
                exact absurd H (by simp)
            · rw [if_neg c14] at H
              have c14b0 : decide (x12_2 < (l2.length : Int)) = false := decide_eq_false c14
              clear c14
              by_cases c21 : (t134 != x11_2) = true
              · rw [if_pos c21] at H
                have c21b0 : (t134 != x11_2) = true := c21
                (try (have c21b1 : decide (t134 = x11_2) = false := by simpa using c21))
                (try (have c21b2 : (t134 == x11_2) = false := by simpa using c21))
                (try (have c21b3 : ¬ (t134 = x11_2) := by simpa using c21))
                clear c21
                obtain rfl := Option.some.inj H
                go_wp2
                go_ret
                exact ⟨by first | rfl | (simp [errW_none, errW_some] <;> rfl) | (simp [*, errW_none, errW_some] <;> rfl), by repeat (first | (with_reducible first | exact HB.out | apply below_alloc | apply pw_below_drewN | apply below_drew1) | exact HB.out)⟩
              · rw [if_neg c21] at H
                have c21b0 : (t134 != x11_2) = false := by simpa using c21
                (try (have c21b1 : decide (t134 = x11_2) = true := by simpa using c21))
                (try (have c21b2 : (t134 == x11_2) = true := by simpa using c21))
                clear c21
                by_cases c22 : t134 = true
                · subst c22
                  have H1 : ((interregnumlaw15_answers.f).bind fun t141 => (if t141 = true then (if 0 ≤ t133 then (if t133 < (l2.length : Int) then ((interregnumref05_HasAS.f k2 ((rd_T41 l2 t133).f2.f1) a0).bind fun t143 => (if t143 = true then (some false) else (if x10_2 = true then (if ((rd_T41 l2 t133).f1) < 0 then (some true) else (some false)) else (if x9_2 = true then (some (((rd_T41 l2 t133).f3) != 2)) else (some true))))) else (none)) else (none)) else (some false))) = some r := by rw [if_pos rfl] at H; exact H
                  clear H
                  have H := H1
                  clear H1
                  replace H := Option.bind_eq_some_iff.mp H
                  obtain ⟨t141, A230, H⟩ := H
                  replace H : (if t141 = true then (if 0 ≤ t133 then (if t133 < (l2.length : Int) then ((interregnumref05_HasAS.f k2 ((rd_T41 l2 t133).f2.f1) a0).bind fun t143 => (if t143 = true then (some false) else (if x10_2 = true then (if ((rd_T41 l2 t133).f1) < 0 then (some true) else (some false)) else (if x9_2 = true then (some (((rd_T41 l2 t133).f3) != 2)) else (some true))))) else (none)) else (none)) else (some false)) = some r := H
                  have A23 := Aside0.mk A230
                  clear A230
                  by_cases c24 : t141 = true
                  · subst c24
                    have H1 : (if 0 ≤ t133 then (if t133 < (l2.length : Int) then ((interregnumref05_HasAS.f k2 ((rd_T41 l2 t133).f2.f1) a0).bind fun t143 => (if t143 = true then (some false) else (if x10_2 = true then (if ((rd_T41 l2 t133).f1) < 0 then (some true) else (some false)) else (if x9_2 = true then (some (((rd_T41 l2 t133).f3) != 2)) else (some true))))) else (none)) else (none)) = some r := by rw [if_pos rfl] at H; exact H
                    clear H
                    have H := H1
                    clear H1
                    by_cases c25 : 0 ≤ t133
                    · rw [if_pos c25] at H
                      have c25b0 : decide (0 ≤ t133) = true := decide_eq_true c25
                      clear c25
                      by_cases c26 : t133 < (l2.length : Int)
                      · rw [if_pos c26] at H
                        have c26b0 : decide (t133 < (l2.length : Int)) = true := decide_eq_true c26
                        clear c26
                        replace H := Option.bind_eq_some_iff.mp H
                        obtain ⟨t143, A270, H⟩ := H
                        replace H : (if t143 = true then (some false) else (if x10_2 = true then (if ((rd_T41 l2 t133).f1) < 0 then (some true) else (some false)) else (if x9_2 = true then (some (((rd_T41 l2 t133).f3) != 2)) else (some true)))) = some r := H
                        have A27 := Aside0.mk A270
                        clear A270
                        by_cases c28 : t143 = true
                        · subst c28
                          have H1 : (some false) = some r := by rw [if_pos rfl] at H; exact H
                          clear H
                          have H := H1
                          clear H1
                          obtain rfl := Option.some.inj H
                          go_wp2_with (first | ((with_reducible refine gate_callee (f := 9) rfl ?_); refine goesL_ (some 72) rfl rfl Try.func9 (by kernel_rfl) rfl #[] rfl (by (try simp only [List.map_toArray, List.map_cons, List.map_nil]); first | done | rfl | (simp only [List.length_drop, List.length_take]; rfl)) ?_; (with_reducible refine (interregnumlaw15_answers.calls  true _ A23.out).mono ?_); rintro e w29 ⟨rfl, hb⟩; refine ⟨_, rfl, ?_⟩; have n0_ := Aside0.mk (below_step (by repeat (first | (with_reducible first | exact HB.out | apply below_alloc | apply pw_below_drewN | apply below_drew1) | exact HB.out)) hb); clear HB; have HB := n0_; clear n0_; (try clear hb); (try clear hb2); (try clear hk); (try clear hi); have p142 : 0 ≤ (t133 : Int) := of_decide_eq_true (by first | (with_reducible assumption) | assumption); have q142 : t133 < (l2.length : Int) := of_decide_eq_true (by first | (with_reducible assumption) | assumption); obtain ⟨ad142, A142_4, c142_4, A142_8, c142_8, A142_9, c142_9, e142, hx142_0, hx142_1, hx142_2, hx142_3, hx142_4, hx142_5, hx142_6, hx142_7, hx142_8, hx142_9, hx142_10, hl142_4, hi142_4, hl142_8, hi142_8, hl142_9, hi142_9⟩ := at_T41 HR2.out t133 p142 q142; cases e142; replace hx142_0 := (HB.out.cell (World.block_lt_of_cell? w _ hx142_0)).trans hx142_0; replace hx142_1 := (HB.out.cell (World.block_lt_of_cell? w _ hx142_1)).trans hx142_1; replace hx142_2 := (HB.out.cell (World.block_lt_of_cell? w _ hx142_2)).trans hx142_2; replace hx142_3 := (HB.out.cell (World.block_lt_of_cell? w _ hx142_3)).trans hx142_3; replace hx142_4 := (HB.out.cell (World.block_lt_of_cell? w _ hx142_4)).trans hx142_4; replace hx142_5 := (HB.out.cell (World.block_lt_of_cell? w _ hx142_5)).trans hx142_5; replace hx142_6 := (HB.out.cell (World.block_lt_of_cell? w _ hx142_6)).trans hx142_6; replace hx142_7 := (HB.out.cell (World.block_lt_of_cell? w _ hx142_7)).trans hx142_7; replace hx142_8 := (HB.out.cell (World.block_lt_of_cell? w _ hx142_8)).trans hx142_8; replace hx142_9 := (HB.out.cell (World.block_lt_of_cell? w _ hx142_9)).trans hx142_9; replace hx142_10 := (HB.out.cell (World.block_lt_of_cell? w _ hx142_10)).trans hx142_10; have HR142_4 := Aside0.mk hi142_4; have HC142_4 := Aside0.mk hl142_4; clear hi142_4 hl142_4; have HR142_8 := Aside0.mk hi142_8; have HC142_8 := Aside0.mk hl142_8; clear hi142_8 hl142_8; have HR142_9 := Aside0.mk hi142_9; have HC142_9 := Aside0.mk hl142_9; clear hi142_9 hl142_9; replace p142 := eq_true p142; replace q142 := eq_true q142) | (go_at_call 13; (with_reducible refine (interregnumref05_HasAS.calls k2 _ _ ((rd_T41 l2 t133).f2.f1) a0 true _ ?side1 ?side2 A27.out).mono ?_); (case side1 => repeat (first | exact (Kd.C_below HR142_4.out HB.out) | (with_reducible refine Kd.C_alloc ?_ _) | (with_reducible refine Kd.C_drewN ?_ _) | (with_reducible refine Kd.C_drew ?_))); (case side2 => exact HC142_4.out); rintro e w' ⟨rfl, ⟨nd, rfl⟩⟩))
                          go_ret
                          exact ⟨by first | rfl | (simp [errW_none, errW_some] <;> rfl) | (simp [*, errW_none, errW_some] <;> rfl), by repeat (first | (with_reducible first | exact HB.out | apply below_alloc | apply pw_below_drewN | apply below_drew1) | exact HB.out)⟩
                        · replace c28 := Bool.eq_false_iff.mpr c28
                          subst c28
                          have H1 : (if x10_2 = true then (if ((rd_T41 l2 t133).f1) < 0 then (some true) else (some false)) else (if x9_2 = true then (some (((rd_T41 l2 t133).f3) != 2)) else (some true))) = some r := by rw [if_neg (show ¬ (false = true) by decide)] at H; exact H
                          clear H
                          have H := H1
                          clear H1
                          by_cases c30 : x10_2 = true
                          · subst c30
                            have H1 : (if ((rd_T41 l2 t133).f1) < 0 then (some true) else (some false)) = some r := by rw [if_pos rfl] at H; exact H
                            clear H
                            have H := H1
                            clear H1
                            by_cases c31 : ((rd_T41 l2 t133).f1) < 0
                            · rw [if_pos c31] at H
                              have c31b0 : decide (((rd_T41 l2 t133).f1) < 0) = true := decide_eq_true c31
                              clear c31
                              obtain rfl := Option.some.inj H
                              go_wp2_with (first | ((with_reducible refine gate_callee (f := 9) rfl ?_); refine goesL_ (some 72) rfl rfl Try.func9 (by kernel_rfl) rfl #[] rfl (by (try simp only [List.map_toArray, List.map_cons, List.map_nil]); first | done | rfl | (simp only [List.length_drop, List.length_take]; rfl)) ?_; (with_reducible refine (interregnumlaw15_answers.calls  true _ A23.out).mono ?_); rintro e w32 ⟨rfl, hb⟩; refine ⟨_, rfl, ?_⟩; have n0_ := Aside0.mk (below_step (by repeat (first | (with_reducible first | exact HB.out | apply below_alloc | apply pw_below_drewN | apply below_drew1) | exact HB.out)) hb); clear HB; have HB := n0_; clear n0_; (try clear hb); (try clear hb2); (try clear hk); (try clear hi); have p142 : 0 ≤ (t133 : Int) := of_decide_eq_true (by first | (with_reducible assumption) | assumption); have q142 : t133 < (l2.length : Int) := of_decide_eq_true (by first | (with_reducible assumption) | assumption); obtain ⟨ad142, A142_4, c142_4, A142_8, c142_8, A142_9, c142_9, e142, hx142_0, hx142_1, hx142_2, hx142_3, hx142_4, hx142_5, hx142_6, hx142_7, hx142_8, hx142_9, hx142_10, hl142_4, hi142_4, hl142_8, hi142_8, hl142_9, hi142_9⟩ := at_T41 HR2.out t133 p142 q142; cases e142; replace hx142_0 := (HB.out.cell (World.block_lt_of_cell? w _ hx142_0)).trans hx142_0; replace hx142_1 := (HB.out.cell (World.block_lt_of_cell? w _ hx142_1)).trans hx142_1; replace hx142_2 := (HB.out.cell (World.block_lt_of_cell? w _ hx142_2)).trans hx142_2; replace hx142_3 := (HB.out.cell (World.block_lt_of_cell? w _ hx142_3)).trans hx142_3; replace hx142_4 := (HB.out.cell (World.block_lt_of_cell? w _ hx142_4)).trans hx142_4; replace hx142_5 := (HB.out.cell (World.block_lt_of_cell? w _ hx142_5)).trans hx142_5; replace hx142_6 := (HB.out.cell (World.block_lt_of_cell? w _ hx142_6)).trans hx142_6; replace hx142_7 := (HB.out.cell (World.block_lt_of_cell? w _ hx142_7)).trans hx142_7; replace hx142_8 := (HB.out.cell (World.block_lt_of_cell? w _ hx142_8)).trans hx142_8; replace hx142_9 := (HB.out.cell (World.block_lt_of_cell? w _ hx142_9)).trans hx142_9; replace hx142_10 := (HB.out.cell (World.block_lt_of_cell? w _ hx142_10)).trans hx142_10; have HR142_4 := Aside0.mk hi142_4; have HC142_4 := Aside0.mk hl142_4; clear hi142_4 hl142_4; have HR142_8 := Aside0.mk hi142_8; have HC142_8 := Aside0.mk hl142_8; clear hi142_8 hl142_8; have HR142_9 := Aside0.mk hi142_9; have HC142_9 := Aside0.mk hl142_9; clear hi142_9 hl142_9; replace p142 := eq_true p142; replace q142 := eq_true q142) | (go_at_call 13; (with_reducible refine (interregnumref05_HasAS.calls k2 _ _ ((rd_T41 l2 t133).f2.f1) a0 false _ ?side1 ?side2 A27.out).mono ?_); (case side1 => repeat (first | exact (Kd.C_below HR142_4.out HB.out) | (with_reducible refine Kd.C_alloc ?_ _) | (with_reducible refine Kd.C_drewN ?_ _) | (with_reducible refine Kd.C_drew ?_))); (case side2 => exact HC142_4.out); rintro e w' ⟨rfl, ⟨nd, rfl⟩⟩; have p144 : 0 ≤ (t133 : Int) := of_decide_eq_true (by first | (with_reducible assumption) | assumption); have q144 : t133 < (l2.length : Int) := of_decide_eq_true (by first | (with_reducible assumption) | assumption); obtain ⟨ad144, A144_4, c144_4, A144_8, c144_8, A144_9, c144_9, e144, hx144_0, hx144_1, hx144_2, hx144_3, hx144_4, hx144_5, hx144_6, hx144_7, hx144_8, hx144_9, hx144_10, hl144_4, hi144_4, hl144_8, hi144_8, hl144_9, hi144_9⟩ := at_T41 HR2.out t133 p144 q144; obtain rfl : ad142 = ad144 := (by injection e144); replace hx144_0 := (HB.out.cell (World.block_lt_of_cell? w _ hx144_0)).trans hx144_0; replace hx144_1 := (HB.out.cell (World.block_lt_of_cell? w _ hx144_1)).trans hx144_1; replace hx144_2 := (HB.out.cell (World.block_lt_of_cell? w _ hx144_2)).trans hx144_2; replace hx144_3 := (HB.out.cell (World.block_lt_of_cell? w _ hx144_3)).trans hx144_3; replace hx144_4 := (HB.out.cell (World.block_lt_of_cell? w _ hx144_4)).trans hx144_4; replace hx144_5 := (HB.out.cell (World.block_lt_of_cell? w _ hx144_5)).trans hx144_5; replace hx144_6 := (HB.out.cell (World.block_lt_of_cell? w _ hx144_6)).trans hx144_6; replace hx144_7 := (HB.out.cell (World.block_lt_of_cell? w _ hx144_7)).trans hx144_7; replace hx144_8 := (HB.out.cell (World.block_lt_of_cell? w _ hx144_8)).trans hx144_8; replace hx144_9 := (HB.out.cell (World.block_lt_of_cell? w _ hx144_9)).trans hx144_9; replace hx144_10 := (HB.out.cell (World.block_lt_of_cell? w _ hx144_10)).trans hx144_10; have HR144_4 := Aside0.mk hi144_4; have HC144_4 := Aside0.mk hl144_4; clear hi144_4 hl144_4; have HR144_8 := Aside0.mk hi144_8; have HC144_8 := Aside0.mk hl144_8; clear hi144_8 hl144_8; have HR144_9 := Aside0.mk hi144_9; have HC144_9 := Aside0.mk hl144_9; clear hi144_9 hl144_9; replace p144 := eq_true p144; replace q144 := eq_true q144; have ea_ := Option.some.inj (hx142_4.symm.trans hx144_4); injection ea_ with ea_ en_ ec_; subst ea_; subst ec_; clear en_; have ea_ := Option.some.inj (hx142_8.symm.trans hx144_8); injection ea_ with ea_ en_ ec_; subst ea_; subst ec_; clear en_; have ea_ := Option.some.inj (hx142_9.symm.trans hx144_9); injection ea_ with ea_ en_ ec_; subst ea_; subst ec_; clear en_))
                              go_ret
                              exact ⟨by first | rfl | (simp [errW_none, errW_some] <;> rfl) | (simp [*, errW_none, errW_some] <;> rfl), by repeat (first | (with_reducible first | exact HB.out | apply below_alloc | apply pw_below_drewN | apply below_drew1) | exact HB.out)⟩
                            · rw [if_neg c31] at H
                              have c31b0 : decide (((rd_T41 l2 t133).f1) < 0) = false := decide_eq_false c31
                              clear c31
                              obtain rfl := Option.some.inj H
                              go_wp2_with (first | ((with_reducible refine gate_callee (f := 9) rfl ?_); refine goesL_ (some 72) rfl rfl Try.func9 (by kernel_rfl) rfl #[] rfl (by (try simp only [List.map_toArray, List.map_cons, List.map_nil]); first | done | rfl | (simp only [List.length_drop, List.length_take]; rfl)) ?_; (with_reducible refine (interregnumlaw15_answers.calls  true _ A23.out).mono ?_); rintro e w33 ⟨rfl, hb⟩; refine ⟨_, rfl, ?_⟩; have n0_ := Aside0.mk (below_step (by repeat (first | (with_reducible first | exact HB.out | apply below_alloc | apply pw_below_drewN | apply below_drew1) | exact HB.out)) hb); clear HB; have HB := n0_; clear n0_; (try clear hb); (try clear hb2); (try clear hk); (try clear hi); have p142 : 0 ≤ (t133 : Int) := of_decide_eq_true (by first | (with_reducible assumption) | assumption); have q142 : t133 < (l2.length : Int) := of_decide_eq_true (by first | (with_reducible assumption) | assumption); obtain ⟨ad142, A142_4, c142_4, A142_8, c142_8, A142_9, c142_9, e142, hx142_0, hx142_1, hx142_2, hx142_3, hx142_4, hx142_5, hx142_6, hx142_7, hx142_8, hx142_9, hx142_10, hl142_4, hi142_4, hl142_8, hi142_8, hl142_9, hi142_9⟩ := at_T41 HR2.out t133 p142 q142; cases e142; replace hx142_0 := (HB.out.cell (World.block_lt_of_cell? w _ hx142_0)).trans hx142_0; replace hx142_1 := (HB.out.cell (World.block_lt_of_cell? w _ hx142_1)).trans hx142_1; replace hx142_2 := (HB.out.cell (World.block_lt_of_cell? w _ hx142_2)).trans hx142_2; replace hx142_3 := (HB.out.cell (World.block_lt_of_cell? w _ hx142_3)).trans hx142_3; replace hx142_4 := (HB.out.cell (World.block_lt_of_cell? w _ hx142_4)).trans hx142_4; replace hx142_5 := (HB.out.cell (World.block_lt_of_cell? w _ hx142_5)).trans hx142_5; replace hx142_6 := (HB.out.cell (World.block_lt_of_cell? w _ hx142_6)).trans hx142_6; replace hx142_7 := (HB.out.cell (World.block_lt_of_cell? w _ hx142_7)).trans hx142_7; replace hx142_8 := (HB.out.cell (World.block_lt_of_cell? w _ hx142_8)).trans hx142_8; replace hx142_9 := (HB.out.cell (World.block_lt_of_cell? w _ hx142_9)).trans hx142_9; replace hx142_10 := (HB.out.cell (World.block_lt_of_cell? w _ hx142_10)).trans hx142_10; have HR142_4 := Aside0.mk hi142_4; have HC142_4 := Aside0.mk hl142_4; clear hi142_4 hl142_4; have HR142_8 := Aside0.mk hi142_8; have HC142_8 := Aside0.mk hl142_8; clear hi142_8 hl142_8; have HR142_9 := Aside0.mk hi142_9; have HC142_9 := Aside0.mk hl142_9; clear hi142_9 hl142_9; replace p142 := eq_true p142; replace q142 := eq_true q142) | (go_at_call 13; (with_reducible refine (interregnumref05_HasAS.calls k2 _ _ ((rd_T41 l2 t133).f2.f1) a0 false _ ?side1 ?side2 A27.out).mono ?_); (case side1 => repeat (first | exact (Kd.C_below HR142_4.out HB.out) | (with_reducible refine Kd.C_alloc ?_ _) | (with_reducible refine Kd.C_drewN ?_ _) | (with_reducible refine Kd.C_drew ?_))); (case side2 => exact HC142_4.out); rintro e w' ⟨rfl, ⟨nd, rfl⟩⟩; have p144 : 0 ≤ (t133 : Int) := of_decide_eq_true (by first | (with_reducible assumption) | assumption); have q144 : t133 < (l2.length : Int) := of_decide_eq_true (by first | (with_reducible assumption) | assumption); obtain ⟨ad144, A144_4, c144_4, A144_8, c144_8, A144_9, c144_9, e144, hx144_0, hx144_1, hx144_2, hx144_3, hx144_4, hx144_5, hx144_6, hx144_7, hx144_8, hx144_9, hx144_10, hl144_4, hi144_4, hl144_8, hi144_8, hl144_9, hi144_9⟩ := at_T41 HR2.out t133 p144 q144; obtain rfl : ad142 = ad144 := (by injection e144); replace hx144_0 := (HB.out.cell (World.block_lt_of_cell? w _ hx144_0)).trans hx144_0; replace hx144_1 := (HB.out.cell (World.block_lt_of_cell? w _ hx144_1)).trans hx144_1; replace hx144_2 := (HB.out.cell (World.block_lt_of_cell? w _ hx144_2)).trans hx144_2; replace hx144_3 := (HB.out.cell (World.block_lt_of_cell? w _ hx144_3)).trans hx144_3; replace hx144_4 := (HB.out.cell (World.block_lt_of_cell? w _ hx144_4)).trans hx144_4; replace hx144_5 := (HB.out.cell (World.block_lt_of_cell? w _ hx144_5)).trans hx144_5; replace hx144_6 := (HB.out.cell (World.block_lt_of_cell? w _ hx144_6)).trans hx144_6; replace hx144_7 := (HB.out.cell (World.block_lt_of_cell? w _ hx144_7)).trans hx144_7; replace hx144_8 := (HB.out.cell (World.block_lt_of_cell? w _ hx144_8)).trans hx144_8; replace hx144_9 := (HB.out.cell (World.block_lt_of_cell? w _ hx144_9)).trans hx144_9; replace hx144_10 := (HB.out.cell (World.block_lt_of_cell? w _ hx144_10)).trans hx144_10; have HR144_4 := Aside0.mk hi144_4; have HC144_4 := Aside0.mk hl144_4; clear hi144_4 hl144_4; have HR144_8 := Aside0.mk hi144_8; have HC144_8 := Aside0.mk hl144_8; clear hi144_8 hl144_8; have HR144_9 := Aside0.mk hi144_9; have HC144_9 := Aside0.mk hl144_9; clear hi144_9 hl144_9; replace p144 := eq_true p144; replace q144 := eq_true q144; have ea_ := Option.some.inj (hx142_4.symm.trans hx144_4); injection ea_ with ea_ en_ ec_; subst ea_; subst ec_; clear en_; have ea_ := Option.some.inj (hx142_8.symm.trans hx144_8); injection ea_ with ea_ en_ ec_; subst ea_; subst ec_; clear en_; have ea_ := Option.some.inj (hx142_9.symm.trans hx144_9); injection ea_ with ea_ en_ ec_; subst ea_; subst ec_; clear en_))
                              go_ret
                              exact ⟨by first | rfl | (simp [errW_none, errW_some] <;> rfl) | (simp [*, errW_none, errW_some] <;> rfl), by repeat (first | (with_reducible first | exact HB.out | apply below_alloc | apply pw_below_drewN | apply below_drew1) | exact HB.out)⟩
                          · replace c30 := Bool.eq_false_iff.mpr c30
                            subst c30
                            have H1 : (if x9_2 = true then (some (((rd_T41 l2 t133).f3) != 2)) else (some true)) = some r := by rw [if_neg (show ¬ (false = true) by decide)] at H; exact H
                            clear H
                            have H := H1
                            clear H1
                            by_cases c34 : x9_2 = true
                            · subst c34
                              have H1 : (some (((rd_T41 l2 t133).f3) != 2)) = some r := by rw [if_pos rfl] at H; exact H
                              clear H
                              have H := H1
                              clear H1
                              obtain rfl := Option.some.inj H
                              go_wp2_with (first | ((with_reducible refine gate_callee (f := 9) rfl ?_); refine goesL_ (some 72) rfl rfl Try.func9 (by kernel_rfl) rfl #[] rfl (by (try simp only [List.map_toArray, List.map_cons, List.map_nil]); first | done | rfl | (simp only [List.length_drop, List.length_take]; rfl)) ?_; (with_reducible refine (interregnumlaw15_answers.calls  true _ A23.out).mono ?_); rintro e w35 ⟨rfl, hb⟩; refine ⟨_, rfl, ?_⟩; have n0_ := Aside0.mk (below_step (by repeat (first | (with_reducible first | exact HB.out | apply below_alloc | apply pw_below_drewN | apply below_drew1) | exact HB.out)) hb); clear HB; have HB := n0_; clear n0_; (try clear hb); (try clear hb2); (try clear hk); (try clear hi); have p142 : 0 ≤ (t133 : Int) := of_decide_eq_true (by first | (with_reducible assumption) | assumption); have q142 : t133 < (l2.length : Int) := of_decide_eq_true (by first | (with_reducible assumption) | assumption); obtain ⟨ad142, A142_4, c142_4, A142_8, c142_8, A142_9, c142_9, e142, hx142_0, hx142_1, hx142_2, hx142_3, hx142_4, hx142_5, hx142_6, hx142_7, hx142_8, hx142_9, hx142_10, hl142_4, hi142_4, hl142_8, hi142_8, hl142_9, hi142_9⟩ := at_T41 HR2.out t133 p142 q142; cases e142; replace hx142_0 := (HB.out.cell (World.block_lt_of_cell? w _ hx142_0)).trans hx142_0; replace hx142_1 := (HB.out.cell (World.block_lt_of_cell? w _ hx142_1)).trans hx142_1; replace hx142_2 := (HB.out.cell (World.block_lt_of_cell? w _ hx142_2)).trans hx142_2; replace hx142_3 := (HB.out.cell (World.block_lt_of_cell? w _ hx142_3)).trans hx142_3; replace hx142_4 := (HB.out.cell (World.block_lt_of_cell? w _ hx142_4)).trans hx142_4; replace hx142_5 := (HB.out.cell (World.block_lt_of_cell? w _ hx142_5)).trans hx142_5; replace hx142_6 := (HB.out.cell (World.block_lt_of_cell? w _ hx142_6)).trans hx142_6; replace hx142_7 := (HB.out.cell (World.block_lt_of_cell? w _ hx142_7)).trans hx142_7; replace hx142_8 := (HB.out.cell (World.block_lt_of_cell? w _ hx142_8)).trans hx142_8; replace hx142_9 := (HB.out.cell (World.block_lt_of_cell? w _ hx142_9)).trans hx142_9; replace hx142_10 := (HB.out.cell (World.block_lt_of_cell? w _ hx142_10)).trans hx142_10; have HR142_4 := Aside0.mk hi142_4; have HC142_4 := Aside0.mk hl142_4; clear hi142_4 hl142_4; have HR142_8 := Aside0.mk hi142_8; have HC142_8 := Aside0.mk hl142_8; clear hi142_8 hl142_8; have HR142_9 := Aside0.mk hi142_9; have HC142_9 := Aside0.mk hl142_9; clear hi142_9 hl142_9; replace p142 := eq_true p142; replace q142 := eq_true q142) | (go_at_call 13; (with_reducible refine (interregnumref05_HasAS.calls k2 _ _ ((rd_T41 l2 t133).f2.f1) a0 false _ ?side1 ?side2 A27.out).mono ?_); (case side1 => repeat (first | exact (Kd.C_below HR142_4.out HB.out) | (with_reducible refine Kd.C_alloc ?_ _) | (with_reducible refine Kd.C_drewN ?_ _) | (with_reducible refine Kd.C_drew ?_))); (case side2 => exact HC142_4.out); rintro e w' ⟨rfl, ⟨nd, rfl⟩⟩; have p145 : 0 ≤ (t133 : Int) := of_decide_eq_true (by first | (with_reducible assumption) | assumption); have q145 : t133 < (l2.length : Int) := of_decide_eq_true (by first | (with_reducible assumption) | assumption); obtain ⟨ad145, A145_4, c145_4, A145_8, c145_8, A145_9, c145_9, e145, hx145_0, hx145_1, hx145_2, hx145_3, hx145_4, hx145_5, hx145_6, hx145_7, hx145_8, hx145_9, hx145_10, hl145_4, hi145_4, hl145_8, hi145_8, hl145_9, hi145_9⟩ := at_T41 HR2.out t133 p145 q145; obtain rfl : ad142 = ad145 := (by injection e145); replace hx145_0 := (HB.out.cell (World.block_lt_of_cell? w _ hx145_0)).trans hx145_0; replace hx145_1 := (HB.out.cell (World.block_lt_of_cell? w _ hx145_1)).trans hx145_1; replace hx145_2 := (HB.out.cell (World.block_lt_of_cell? w _ hx145_2)).trans hx145_2; replace hx145_3 := (HB.out.cell (World.block_lt_of_cell? w _ hx145_3)).trans hx145_3; replace hx145_4 := (HB.out.cell (World.block_lt_of_cell? w _ hx145_4)).trans hx145_4; replace hx145_5 := (HB.out.cell (World.block_lt_of_cell? w _ hx145_5)).trans hx145_5; replace hx145_6 := (HB.out.cell (World.block_lt_of_cell? w _ hx145_6)).trans hx145_6; replace hx145_7 := (HB.out.cell (World.block_lt_of_cell? w _ hx145_7)).trans hx145_7; replace hx145_8 := (HB.out.cell (World.block_lt_of_cell? w _ hx145_8)).trans hx145_8; replace hx145_9 := (HB.out.cell (World.block_lt_of_cell? w _ hx145_9)).trans hx145_9; replace hx145_10 := (HB.out.cell (World.block_lt_of_cell? w _ hx145_10)).trans hx145_10; have HR145_4 := Aside0.mk hi145_4; have HC145_4 := Aside0.mk hl145_4; clear hi145_4 hl145_4; have HR145_8 := Aside0.mk hi145_8; have HC145_8 := Aside0.mk hl145_8; clear hi145_8 hl145_8; have HR145_9 := Aside0.mk hi145_9; have HC145_9 := Aside0.mk hl145_9; clear hi145_9 hl145_9; replace p145 := eq_true p145; replace q145 := eq_true q145; have ea_ := Option.some.inj (hx142_4.symm.trans hx145_4); injection ea_ with ea_ en_ ec_; subst ea_; subst ec_; clear en_; have ea_ := Option.some.inj (hx142_8.symm.trans hx145_8); injection ea_ with ea_ en_ ec_; subst ea_; subst ec_; clear en_; have ea_ := Option.some.inj (hx142_9.symm.trans hx145_9); injection ea_ with ea_ en_ ec_; subst ea_; subst ec_; clear en_))
                              go_ret
                              exact ⟨by first | rfl | (simp [errW_none, errW_some] <;> rfl) | (simp [*, errW_none, errW_some] <;> rfl), by repeat (first | (with_reducible first | exact HB.out | apply below_alloc | apply pw_below_drewN | apply below_drew1) | exact HB.out)⟩
                            · replace c34 := Bool.eq_false_iff.mpr c34
                              subst c34
                              have H1 : (some true) = some r := by rw [if_neg (show ¬ (false = true) by decide)] at H; exact H
                              clear H
                              have H := H1
                              clear H1
                              obtain rfl := Option.some.inj H
                              go_wp2_with (first | ((with_reducible refine gate_callee (f := 9) rfl ?_); refine goesL_ (some 72) rfl rfl Try.func9 (by kernel_rfl) rfl #[] rfl (by (try simp only [List.map_toArray, List.map_cons, List.map_nil]); first | done | rfl | (simp only [List.length_drop, List.length_take]; rfl)) ?_; (with_reducible refine (interregnumlaw15_answers.calls  true _ A23.out).mono ?_); rintro e w36 ⟨rfl, hb⟩; refine ⟨_, rfl, ?_⟩; have n0_ := Aside0.mk (below_step (by repeat (first | (with_reducible first | exact HB.out | apply below_alloc | apply pw_below_drewN | apply below_drew1) | exact HB.out)) hb); clear HB; have HB := n0_; clear n0_; (try clear hb); (try clear hb2); (try clear hk); (try clear hi); have p142 : 0 ≤ (t133 : Int) := of_decide_eq_true (by first | (with_reducible assumption) | assumption); have q142 : t133 < (l2.length : Int) := of_decide_eq_true (by first | (with_reducible assumption) | assumption); obtain ⟨ad142, A142_4, c142_4, A142_8, c142_8, A142_9, c142_9, e142, hx142_0, hx142_1, hx142_2, hx142_3, hx142_4, hx142_5, hx142_6, hx142_7, hx142_8, hx142_9, hx142_10, hl142_4, hi142_4, hl142_8, hi142_8, hl142_9, hi142_9⟩ := at_T41 HR2.out t133 p142 q142; cases e142; replace hx142_0 := (HB.out.cell (World.block_lt_of_cell? w _ hx142_0)).trans hx142_0; replace hx142_1 := (HB.out.cell (World.block_lt_of_cell? w _ hx142_1)).trans hx142_1; replace hx142_2 := (HB.out.cell (World.block_lt_of_cell? w _ hx142_2)).trans hx142_2; replace hx142_3 := (HB.out.cell (World.block_lt_of_cell? w _ hx142_3)).trans hx142_3; replace hx142_4 := (HB.out.cell (World.block_lt_of_cell? w _ hx142_4)).trans hx142_4; replace hx142_5 := (HB.out.cell (World.block_lt_of_cell? w _ hx142_5)).trans hx142_5; replace hx142_6 := (HB.out.cell (World.block_lt_of_cell? w _ hx142_6)).trans hx142_6; replace hx142_7 := (HB.out.cell (World.block_lt_of_cell? w _ hx142_7)).trans hx142_7; replace hx142_8 := (HB.out.cell (World.block_lt_of_cell? w _ hx142_8)).trans hx142_8; replace hx142_9 := (HB.out.cell (World.block_lt_of_cell? w _ hx142_9)).trans hx142_9; replace hx142_10 := (HB.out.cell (World.block_lt_of_cell? w _ hx142_10)).trans hx142_10; have HR142_4 := Aside0.mk hi142_4; have HC142_4 := Aside0.mk hl142_4; clear hi142_4 hl142_4; have HR142_8 := Aside0.mk hi142_8; have HC142_8 := Aside0.mk hl142_8; clear hi142_8 hl142_8; have HR142_9 := Aside0.mk hi142_9; have HC142_9 := Aside0.mk hl142_9; clear hi142_9 hl142_9; replace p142 := eq_true p142; replace q142 := eq_true q142) | (go_at_call 13; (with_reducible refine (interregnumref05_HasAS.calls k2 _ _ ((rd_T41 l2 t133).f2.f1) a0 false _ ?side1 ?side2 A27.out).mono ?_); (case side1 => repeat (first | exact (Kd.C_below HR142_4.out HB.out) | (with_reducible refine Kd.C_alloc ?_ _) | (with_reducible refine Kd.C_drewN ?_ _) | (with_reducible refine Kd.C_drew ?_))); (case side2 => exact HC142_4.out); rintro e w' ⟨rfl, ⟨nd, rfl⟩⟩))
                              go_ret
                              exact ⟨by first | rfl | (simp [errW_none, errW_some] <;> rfl) | (simp [*, errW_none, errW_some] <;> rfl), by repeat (first | (with_reducible first | exact HB.out | apply below_alloc | apply pw_below_drewN | apply below_drew1) | exact HB.out)⟩
                      · rw [if_neg c26] at H
                        exact absurd H (by simp)
                    · rw [if_neg c25] at H
                      exact absurd H (by simp)
                  · replace c24 := Bool.eq_false_iff.mpr c24
                    subst c24
                    have H1 : (some false) = some r := by rw [if_neg (show ¬ (false = true) by decide)] at H; exact H
                    clear H
                    have H := H1
                    clear H1
                    obtain rfl := Option.some.inj H
                    go_wp2_with (first | ((with_reducible refine gate_callee (f := 9) rfl ?_); refine goesL_ (some 72) rfl rfl Try.func9 (by kernel_rfl) rfl #[] rfl (by (try simp only [List.map_toArray, List.map_cons, List.map_nil]); first | done | rfl | (simp only [List.length_drop, List.length_take]; rfl)) ?_; (with_reducible refine (interregnumlaw15_answers.calls  false _ A23.out).mono ?_); rintro e w37 ⟨rfl, hb⟩; refine ⟨_, rfl, ?_⟩; have n0_ := Aside0.mk (below_step (by repeat (first | (with_reducible first | exact HB.out | apply below_alloc | apply pw_below_drewN | apply below_drew1) | exact HB.out)) hb); clear HB; have HB := n0_; clear n0_; (try clear hb); (try clear hb2); (try clear hk); (try clear hi)))
                    go_ret
                    exact ⟨by first | rfl | (simp [errW_none, errW_some] <;> rfl) | (simp [*, errW_none, errW_some] <;> rfl), by repeat (first | (with_reducible first | exact HB.out | apply below_alloc | apply pw_below_drewN | apply below_drew1) | exact HB.out)⟩
                · replace c22 := Bool.eq_false_iff.mpr c22
                  subst c22
                  have H1 : ((interregnumlaw15_answers.f).bind fun t140 => (if t140 = true then (some (t133 == 0)) else (some false))) = some r := by rw [if_neg (show ¬ (false = true) by decide)] at H; exact H
                  clear H
                  have H := H1
                  clear H1
                  replace H := Option.bind_eq_some_iff.mp H
                  obtain ⟨t140, A380, H⟩ := H
                  replace H : (if t140 = true then (some (t133 == 0)) else (some false)) = some r := H
                  have A38 := Aside0.mk A380
                  clear A380
                  by_cases c39 : t140 = true
                  · subst c39
                    have H1 : (some (t133 == 0)) = some r := by rw [if_pos rfl] at H; exact H
                    clear H
                    have H := H1
                    clear H1
                    obtain rfl := Option.some.inj H
                    go_wp2_with (first | ((with_reducible refine gate_callee (f := 9) rfl ?_); refine goesL_ (some 67) rfl rfl Try.func9 (by kernel_rfl) rfl #[] rfl (by (try simp only [List.map_toArray, List.map_cons, List.map_nil]); first | done | rfl | (simp only [List.length_drop, List.length_take]; rfl)) ?_; (with_reducible refine (interregnumlaw15_answers.calls  true _ A38.out).mono ?_); rintro e w40 ⟨rfl, hb⟩; refine ⟨_, rfl, ?_⟩; have n0_ := Aside0.mk (below_step (by repeat (first | (with_reducible first | exact HB.out | apply below_alloc | apply pw_below_drewN | apply below_drew1) | exact HB.out)) hb); clear HB; have HB := n0_; clear n0_; (try clear hb); (try clear hb2); (try clear hk); (try clear hi)))
                    go_ret
                    exact ⟨by first | rfl | (simp [errW_none, errW_some] <;> rfl) | (simp [*, errW_none, errW_some] <;> rfl), by repeat (first | (with_reducible first | exact HB.out | apply below_alloc | apply pw_below_drewN | apply below_drew1) | exact HB.out)⟩
                  · replace c39 := Bool.eq_false_iff.mpr c39
                    subst c39
                    have H1 : (some false) = some r := by rw [if_neg (show ¬ (false = true) by decide)] at H; exact H
                    clear H
                    have H := H1
                    clear H1
                    obtain rfl := Option.some.inj H
                    go_wp2_with (first | ((with_reducible refine gate_callee (f := 9) rfl ?_); refine goesL_ (some 67) rfl rfl Try.func9 (by kernel_rfl) rfl #[] rfl (by (try simp only [List.map_toArray, List.map_cons, List.map_nil]); first | done | rfl | (simp only [List.length_drop, List.length_take]; rfl)) ?_; (with_reducible refine (interregnumlaw15_answers.calls  false _ A38.out).mono ?_); rintro e w41 ⟨rfl, hb⟩; refine ⟨_, rfl, ?_⟩; have n0_ := Aside0.mk (below_step (by repeat (first | (with_reducible first | exact HB.out | apply below_alloc | apply pw_below_drewN | apply below_drew1) | exact HB.out)) hb); clear HB; have HB := n0_; clear n0_; (try clear hb); (try clear hb2); (try clear hk); (try clear hi)))
                    go_ret
                    exact ⟨by first | rfl | (simp [errW_none, errW_some] <;> rfl) | (simp [*, errW_none, errW_some] <;> rfl), by repeat (first | (with_reducible first | exact HB.out | apply below_alloc | apply pw_below_drewN | apply below_drew1) | exact HB.out)⟩

end Go.Proofs.Ytediicgkcgfghaa.PDecideLoops
