-- Lean text by a program of this repo (wip/tools/printx.py), out of Lean's own print of the translation
import Derived.Test.YtjdebhkdbdbepaaPExportGonex0
import Derived.Test.YtjdebhkdbdbepaaPExportGonex8
import Derived.Test.YtjdebhkdbdbepaaPExportGonex9
namespace Go.Proofs.Ytjdebhkdbdbepaa.PExportGone
open Go.RowKit Go.Proofs.YtjdebhkdbdbepaaW.PrintWords Go.Proofs.YtjdebhkdbdbepaaW.PrintLast Go.Proofs.YtjdebhkdbdbepaaW.PrintMore
attribute [local go_sem] max2_int min2_int max_two min_two max_three min_three max_four min_four   -- for this text's walks alone
set_option linter.unusedVariables false
set_option linter.unusedSimpArgs false

/-! ### interregnumlaw16_ExportGone: function 6 -/
mutual
def interregnumlaw16_ExportGone.l0 : Nat → Int → List (S54) → Int → Option (Bool)
  | 0, _, _, _ => none
  | k + 1, x3, x4, x5 => if x5 < x3 then (if x4.length < 1172812402961 then (interregnumlaw16_ExportGone.l0 k x3 (x4 ++ [(⟨(⟨(((x5) % 4294967296) * 256) % 4294967296, 24⟩ : S29), (⟨0, ([] : List (S69)), 0, 0, 0, ([] : List Int), ([] : List (S73))⟩ : S34)⟩ : S54)]) (wrap64 (x5 + 1))) else (none)) else ((export_Delta.f x4 ([] : List (S54))).bind fun t153 => (interregnumlaw16_ExportGone.l1 k x3 t153 0 0))
def interregnumlaw16_ExportGone.l1 : Nat → Int → List (S57) → Int → Int → Option (Bool)
  | 0, _, _, _, _ => none
  | k + 1, x3, x6, x7, x8 => if x8 < (x6.length : Int) then (if 0 ≤ x8 then (if (((rd_T57 x6 x8).f2).length : Int) > 0 then (interregnumlaw16_ExportGone.j2 k x3 x6 x7 x8 true) else (if x8 < (wrap64 ((x6.length : Int) - 1)) then (interregnumlaw16_ExportGone.j2 k x3 x6 x7 x8 ((((rd_T57 x6 x8).f0).length : Int) != 100)) else (interregnumlaw16_ExportGone.j2 k x3 x6 x7 x8 false))) else (none)) else ((interregnumlaw16_answers.f).bind fun t161 => (if t161 = true then (if x7 = x3 then (some ((x6.length : Int) == (wrap64 (Int.tdiv (wrap64 (x3 + 99)) 100)))) else (some false)) else (some false)))
def interregnumlaw16_ExportGone.j2 : Nat → Int → List (S57) → Int → Int → Bool → Option (Bool)
  | 0, _, _, _, _, _ => none
  | k + 1, x3, x6, x7, x8, x56 => if x56 = true then (some false) else (interregnumlaw16_ExportGone.l2 k x3 x6 x7 x8 0)
def interregnumlaw16_ExportGone.l2 : Nat → Int → List (S57) → Int → Int → Int → Option (Bool)
  | 0, _, _, _, _, _ => none
  | k + 1, x3, x6, x7, x8, x9 => if 0 ≤ x8 then (if x8 < (x6.length : Int) then (if x9 < (((rd_T57 x6 x8).f0).length : Int) then (if 0 ≤ x9 then (if ((rd_T29 ((rd_T57 x6 x8).f0) x9).f0) = ((((x7) % 4294967296) * 256) % 4294967296) then (interregnumlaw16_ExportGone.l2 k x3 x6 (wrap64 (x7 + 1)) x8 (wrap64 (x9 + 1))) else (some false)) else (none)) else (interregnumlaw16_ExportGone.l1 k x3 x6 x7 (wrap64 (x8 + 1)))) else (none)) else (none)
end
def interregnumlaw16_ExportGone.f (k : Nat) (a0 : Int) : Option (Bool) := interregnumlaw16_ExportGone.l0 k (wrap64 (Int.tmod a0 450)) ([] : List (S54)) 0
theorem interregnumlaw16_ExportGone.mono_l : ∀ k, (∀ y0 y1 y2, LeO (interregnumlaw16_ExportGone.l0 k y0 y1 y2) (interregnumlaw16_ExportGone.l0 (k + 1) y0 y1 y2)) ∧ (∀ y0 y1 y2 y3, LeO (interregnumlaw16_ExportGone.l1 k y0 y1 y2 y3) (interregnumlaw16_ExportGone.l1 (k + 1) y0 y1 y2 y3)) ∧ (∀ y0 y1 y2 y3 y4, LeO (interregnumlaw16_ExportGone.j2 k y0 y1 y2 y3 y4) (interregnumlaw16_ExportGone.j2 (k + 1) y0 y1 y2 y3 y4)) ∧ (∀ y0 y1 y2 y3 y4, LeO (interregnumlaw16_ExportGone.l2 k y0 y1 y2 y3 y4) (interregnumlaw16_ExportGone.l2 (k + 1) y0 y1 y2 y3 y4))
  | 0 => ⟨fun _ _ _ r h => by simp [interregnumlaw16_ExportGone.l0] at h, fun _ _ _ _ r h => by simp [interregnumlaw16_ExportGone.l1] at h, fun _ _ _ _ _ r h => by simp [interregnumlaw16_ExportGone.j2] at h, fun _ _ _ _ _ r h => by simp [interregnumlaw16_ExportGone.l2] at h⟩
  | k + 1 => by
    obtain ⟨ih0, ih1, ih2, ih3⟩ := interregnumlaw16_ExportGone.mono_l k
    refine ⟨?_, ?_, ?_, ?_⟩
    · intro y0 y1 y2
      unfold interregnumlaw16_ExportGone.l0
      repeat' first
      | (with_reducible exact ih0 _ _ _)
      | (with_reducible exact ih1 _ _ _ _)
      | (with_reducible exact ih2 _ _ _ _ _)
      | (with_reducible exact ih3 _ _ _ _ _)
      | (with_reducible exact LeO.refl _)
      | (with_reducible exact LeO.none _)
      | (with_reducible refine LeO.ite ?_ ?_)
      | (with_reducible refine LeO.bind ?_ (fun _ => ?_))
      | exact ih0 _ _ _
      | exact ih1 _ _ _ _
      | exact ih2 _ _ _ _ _
      | exact ih3 _ _ _ _ _
      | exact LeO.none _
      | refine LeO.ite ?_ ?_
      | refine LeO.bind ?_ (fun _ => ?_)
    · intro y0 y1 y2 y3
      unfold interregnumlaw16_ExportGone.l1
      repeat' first
      | (with_reducible exact ih0 _ _ _)
      | (with_reducible exact ih1 _ _ _ _)
      | (with_reducible exact ih2 _ _ _ _ _)
      | (with_reducible exact ih3 _ _ _ _ _)
      | (with_reducible exact LeO.refl _)
      | (with_reducible exact LeO.none _)
      | (with_reducible refine LeO.ite ?_ ?_)
      | (with_reducible refine LeO.bind ?_ (fun _ => ?_))
      | exact ih0 _ _ _
      | exact ih1 _ _ _ _
      | exact ih2 _ _ _ _ _
      | exact ih3 _ _ _ _ _
      | exact LeO.none _
      | refine LeO.ite ?_ ?_
      | refine LeO.bind ?_ (fun _ => ?_)
    · intro y0 y1 y2 y3 y4
      unfold interregnumlaw16_ExportGone.j2
      repeat' first
      | (with_reducible exact ih0 _ _ _)
      | (with_reducible exact ih1 _ _ _ _)
      | (with_reducible exact ih2 _ _ _ _ _)
      | (with_reducible exact ih3 _ _ _ _ _)
      | (with_reducible exact LeO.refl _)
      | (with_reducible exact LeO.none _)
      | (with_reducible refine LeO.ite ?_ ?_)
      | (with_reducible refine LeO.bind ?_ (fun _ => ?_))
      | exact ih0 _ _ _
      | exact ih1 _ _ _ _
      | exact ih2 _ _ _ _ _
      | exact ih3 _ _ _ _ _
      | exact LeO.none _
      | refine LeO.ite ?_ ?_
      | refine LeO.bind ?_ (fun _ => ?_)
    · intro y0 y1 y2 y3 y4
      unfold interregnumlaw16_ExportGone.l2
      repeat' first
      | (with_reducible exact ih0 _ _ _)
      | (with_reducible exact ih1 _ _ _ _)
      | (with_reducible exact ih2 _ _ _ _ _)
      | (with_reducible exact ih3 _ _ _ _ _)
      | (with_reducible exact LeO.refl _)
      | (with_reducible exact LeO.none _)
      | (with_reducible refine LeO.ite ?_ ?_)
      | (with_reducible refine LeO.bind ?_ (fun _ => ?_))
      | exact ih0 _ _ _
      | exact ih1 _ _ _ _
      | exact ih2 _ _ _ _ _
      | exact ih3 _ _ _ _ _
      | exact LeO.none _
      | refine LeO.ite ?_ ?_
      | refine LeO.bind ?_ (fun _ => ?_)
theorem interregnumlaw16_ExportGone.mono : ∀ a0 k, LeO (interregnumlaw16_ExportGone.f k a0) (interregnumlaw16_ExportGone.f (k + 1) a0) := by
  intro a0 k
  obtain ⟨ih0, ih1, ih2, ih3⟩ := interregnumlaw16_ExportGone.mono_l k
  unfold interregnumlaw16_ExportGone.f
  repeat' first
      | (with_reducible exact ih0 _ _ _)
      | (with_reducible exact ih1 _ _ _ _)
      | (with_reducible exact ih2 _ _ _ _ _)
      | (with_reducible exact ih3 _ _ _ _ _)
      | (with_reducible exact LeO.refl _)
      | (with_reducible exact LeO.none _)
      | (with_reducible refine LeO.ite ?_ ?_)
      | (with_reducible refine LeO.bind ?_ (fun _ => ?_))
      | exact ih0 _ _ _
      | exact ih1 _ _ _ _
      | exact ih2 _ _ _ _ _
      | exact ih3 _ _ _ _ _
      | exact LeO.none _
      | refine LeO.ite ?_ ?_
      | refine LeO.bind ?_ (fun _ => ?_)
set_option maxHeartbeats 8000000 in
set_option maxRecDepth 100000 in
theorem interregnumlaw16_ExportGone.calls (k : Nat) (a0 : Int) (r : Bool) (w : World) (h : interregnumlaw16_ExportGone.f k a0 = some r) :
    Calls Try.prog 6 #[.int .u16 a0] w fun e w' => e = .returned (.bool r) ∧ Below w.heap.size w w' := by
 have hu29 := Try.underlying29
 have hu54 := Try.underlying54
 have HB := Aside0.mk (Below.refl w.heap.size w)
 have H : (interregnumlaw16_ExportGone.l0 k (wrap64 (Int.tmod a0 450)) ([] : List (S54)) 0) = some r := h
 clear h
 have H' := Aside0.mk H
 clear H
 go_enter Try.func6, Try.ntmps6
 go_wp2
 go_loopg [4, 5] k (fun kq v4 v5 w' => ∃ (x4_1 : List (S54)) (x5_1 : Int), v5 = .int .i64 x5_1 ∧ Aside0 (interregnumlaw16_ExportGone.l0 kq (wrap64 (Int.tmod a0 450)) x4_1 x5_1 = some r) ∧ Aside0 (kq ≤ k) ∧ Aside0 (Kd.N k54 54 w' w.heap.size (fun _ => True) v4 x4_1) ∧ Aside0 (Below w.heap.size w w'))
 case atStart => exact ⟨(([] : List (S54))), (0), (by first | rfl | (simp; done) | (simp [*]; done)), H', ⟨Nat.le_refl _⟩, ⟨by first | exact Kd.R_nil _ _ _ _ _ | exact Kd.N_nil _ _ _ _ _ | exact Kd.V_nil _ _ _ _ _ | exact Kd.Q_nil _ _ _ _ _ | exact Kd.S_nil _ _ _ _ _⟩, ⟨by repeat (first | (with_reducible first | exact HB.out | apply below_alloc | apply pw_below_drewN | apply below_drew1) | exact HB.out)⟩⟩
 clear H'
 obtain ⟨x4_1, x5_1, rfl, HA, HK1, HO_4, HB⟩ := hrel
 cases gk with
 | zero => exact absurd HA.out (by simp [interregnumlaw16_ExportGone.l0])
 | succ k1 =>
 have H := HA.out
 clear HA
 simp only [interregnumlaw16_ExportGone.l0] at H
 by_cases c2 : x5_1 < (wrap64 (Int.tmod a0 450))
 ·rw [if_pos c2] at H
  have c2b0 : decide (x5_1 < (wrap64 (Int.tmod a0 450))) = true := decide_eq_true c2
  clear c2
  by_cases c3 : x4_1.length < 1172812402961
  rotate_left
  ·rw [if_neg c3] at H
   exact absurd H (by simp)
  rw [if_pos c3] at H
  have LMc3 := Aside0.mk c3
  clear c3
  obtain ⟨y150, hy150⟩ : ∃ y_ : List (S54), y_ = (x4_1 ++ [(⟨(⟨(((x5_1) % 4294967296) * 256) % 4294967296, 24⟩ : S29), (⟨0, ([] : List (S69)), 0, 0, 0, ([] : List Int), ([] : List (S73))⟩ : S34)⟩ : S54)]) := ⟨_, rfl⟩
  replace H : (interregnumlaw16_ExportGone.l0 k1 (wrap64 (Int.tmod a0 450)) y150 (wrap64 (x5_1 + 1))) = some r := by first | (rw [hy150]; with_reducible exact H) | (have H2_ := (Option.bind_some _ _).symm.trans H; rw [hy150]; with_reducible exact H2_) | (have H2_ := (Option.bind_some _ _).symm.trans H; with_reducible exact H2_) | with_reducible exact H | (rw [hy150]; exact H) | exact H
  have Ny150 := Aside0.mk hy150
  clear hy150
  have H' := Aside0.mk H
  clear H
  go_wp2_with (first | ((with_reducible refine gate_builtin (b := .append) (xs := #[.tmp 18, .tmp 24]) rfl ?_); (try (refine gate_guard (by rfl) ?_; dsimp only)); at_builtin; refine Kd.N_append k54 (w0 := w) w.heap.size rfl (.tmp 18) (.tmp 24) 48 54 (.agg #[(.int .u32 0), (.int .i64 0), (.int .i64 0), (.slice none 0 0), (.int .u32 0), (.int .i64 0), (.int .i64 0), (.slice none 0 0), (.slice none 0 0)]) 120 rfl Try.underlying48 info54 rfl (by decide) (by omega) u4 x4_1 (⟨(⟨(((x5_1) % 4294967296) * 256) % 4294967296, 24⟩ : S29), (⟨0, ([] : List (S69)), 0, 0, 0, ([] : List Int), ([] : List (S73))⟩ : S34)⟩ : S54) [.int .u32 ((((x5_1) % 4294967296) * 256) % 4294967296), .int .i64 24, .int .i64 0, .slice none 0 0, .int .u32 0, .int .i64 0, .int .i64 0, .slice none 0 0, .slice none 0 0] (fun _ => True) (fun k_ => ((fun _ => True)) k_ ∧ some k_ ≠ (u4 : Value).ownBlock) rfl rfl ?aP (fun _ hk => hk) ?aF ?aO ?aB ?aS ?aL ?_; (case aP => exact (k54_mkF _ _ (⟨(⟨(((x5_1) % 4294967296) * 256) % 4294967296, 24⟩ : S29), (⟨0, ([] : List (S69)), 0, 0, 0, ([] : List Int), ([] : List (S73))⟩ : S34)⟩ : S54) (Nat.le_refl _) (Kd.F_nil _ _ _) (Nat.le_refl _) (Kd.F_nil _ _ _) (Nat.le_refl _) (Kd.F_nil _ _ _))); (case aB => exact (by repeat (first | (with_reducible first | exact HB.out | apply below_alloc | apply pw_below_drewN | apply below_drew1) | exact HB.out))); (case aF => exact (fun _ _ => trivial)); (case aO => exact (by (with_reducible repeat (first | apply Kd.N_alloc | apply Kd.N_drewN | apply Kd.N_drew)); exact HO_4.out)); (case aS => exact (below_size (by repeat (first | (with_reducible first | exact HB.out | apply below_alloc | apply pw_below_drewN | apply below_drew1) | exact HB.out)))); (case aL => have := LMc3.out; omega); intro v151 w4 ho hb hg hat; rw [← Ny150.out] at ho; have n0_ := Aside0.mk (hb); have n1_ := Aside0.mk (ho); clear HB; clear HO_4; have HB := n0_; have HO152 := n1_; clear n0_ n1_; clear ho hb hg hat))
  go_roundg k1
  case measure => have := HK1.out; omega
  case rel => exact ⟨(y150), (wrap64 (x5_1 + 1)), (by first | rfl | (simp; done) | (simp [*]; done)), H', ⟨by have := HK1.out; omega⟩, ⟨by (with_reducible repeat (first | apply Kd.N_alloc | apply Kd.N_drewN | apply Kd.N_drew)); exact HO152.out⟩, ⟨by repeat (first | (with_reducible first | exact HB.out | apply below_alloc | apply pw_below_drewN | apply below_drew1) | exact HB.out)⟩⟩
 rw [if_neg c2] at H
 have c2b0 : decide (x5_1 < (wrap64 (Int.tmod a0 450))) = false := decide_eq_false c2
 clear c2
 replace H := Option.bind_eq_some_iff.mp H
 obtain ⟨t153, A50, H⟩ := H
 replace H : (interregnumlaw16_ExportGone.l1 k1 (wrap64 (Int.tmod a0 450)) t153 0 0) = some r := H
 have A5 := Aside0.mk A50
 clear A50
 have H' := Aside0.mk H
 clear H
 obtain ⟨Ao6, co6, eo6⟩ := Kd.N_slice HO_4.out
 subst eo6
 go_wp2_with (first | ((with_reducible refine gate_callee (f := 17) rfl ?_); refine goesL_ (some 27) rfl rfl Try.func17 (by kernel_rfl) rfl #[.slice Ao6 x4_1.length co6, .slice none 0 0] rfl (by (try simp only [List.map_toArray, List.map_cons, List.map_nil]); first | done | rfl | (simp only [List.length_drop, List.length_take]; rfl)) ?_; (refine (export_Delta.calls _ _ x4_1 _ _ ([] : List (S54)) t153 _ ?side1 ?side2 ?side3 ?side4 A5.out).mono ?_); (case side1 => repeat (first | exact (Kd.N_reads' HO_4.out).2.2 | (with_reducible refine Kd.C_alloc ?_ _) | (with_reducible refine Kd.C_drewN ?_ _) | (with_reducible refine Kd.C_drew ?_))); (case side2 => exact (Kd.N_reads' HO_4.out).2.1); (case side3 => exact Kd.C_nil _ _); (case side4 => exact Nat.le_refl _); rintro e w7 ⟨v154, rfl, ho0, hb⟩; refine ⟨_, rfl, ?_⟩; have n0_ := Aside0.mk (Kd.N_elder' (by (with_reducible repeat (first | apply Kd.N_alloc | apply Kd.N_drewN | apply Kd.N_drew)); exact HO_4.out) (Kd.N_base ho0) hb); have n1_ := Aside0.mk (Kd.N_lower (Kd.N_mono (ok' := fun k_ => some k_ ≠ (.slice Ao6 x4_1.length co6 : Value).ownBlock) ho0 (fun k_ hk_ => (Kd.fresh' (Kd.N_lt (by (with_reducible repeat (first | apply Kd.N_alloc | apply Kd.N_drewN | apply Kd.N_drew)); exact HO_4.out)) k_ hk_))) (below_size (by repeat (first | (with_reducible first | exact HB.out | apply below_alloc | apply pw_below_drewN | apply below_drew1) | exact HB.out)))); have n2_ := Aside0.mk (below_step (by repeat (first | (with_reducible first | exact HB.out | apply below_alloc | apply pw_below_drewN | apply below_drew1) | exact HB.out)) hb); clear HO_4; clear HB; have HO_4 := n0_; have HO155 := n1_; have HB := n2_; clear n0_ n1_ n2_; (try clear hb); (try clear hb2); (try clear hk); (try clear hi); (try clear ho0)))
 go_loopg [7, 8] k1 (fun kq v7 v8 w' => ∃ (x7_2 : Int) (x8_2 : Int), v7 = .int .i64 x7_2 ∧ v8 = .int .i64 x8_2 ∧ Aside0 (interregnumlaw16_ExportGone.l1 kq (wrap64 (Int.tmod a0 450)) t153 x7_2 x8_2 = some r) ∧ Aside0 (kq ≤ k1) ∧ Aside0 (Kd.N k57 57 w' w.heap.size (fun _ => True) v154 t153) ∧ Aside0 (Below w.heap.size w w'))
 case atStart => exact ⟨(0), (0), (by first | rfl | (simp; done) | (simp [*]; done)), (by first | rfl | (simp; done) | (simp [*]; done)), H', ⟨Nat.le_refl _⟩, ⟨by (with_reducible repeat (first | apply Kd.N_alloc | apply Kd.N_drewN | apply Kd.N_drew)); exact Kd.N_mono HO155.out (fun _ hk => trivial)⟩, ⟨by repeat (first | (with_reducible first | exact HB.out | apply below_alloc | apply pw_below_drewN | apply below_drew1) | exact HB.out)⟩⟩
 clear H'
 try clear c1
 try clear c2
 try clear c2b0
 try clear p2
 try clear c3
 try clear c6
 try clear p6
 obtain ⟨x7_2, x8_2, rfl, rfl, HA, HK2, HO_6, HB⟩ := hrel
 cases gk with
 | zero => exact absurd HA.out (by simp [interregnumlaw16_ExportGone.l1])
 | succ k2 =>
 have H := HA.out
 clear HA
 simp only [interregnumlaw16_ExportGone.l1] at H
 by_cases c8 : x8_2 < (t153.length : Int)
 rotate_left
 ·rw [if_neg c8] at H
  have c8b0 : decide (x8_2 < (t153.length : Int)) = false := decide_eq_false c8
  clear c8
  replace H := Option.bind_eq_some_iff.mp H
  obtain ⟨t161, A200, H⟩ := H
  replace H : (if t161 = true then (if x7_2 = (wrap64 (Int.tmod a0 450)) then (some ((t153.length : Int) == (wrap64 (Int.tdiv (wrap64 ((wrap64 (Int.tmod a0 450)) + 99)) 100)))) else (some false)) else (some false)) = some r := H
  have A20 := Aside0.mk A200
  clear A200
  by_cases c21 : t161 = true
  rotate_left
  ·replace c21 := Bool.eq_false_iff.mpr c21
   subst c21
   have H1 : (some false) = some r := by rw [if_neg (show ¬ (false = true) by decide)] at H; exact H
   clear H
   have H := H1
   clear H1
   obtain rfl := Option.some.inj H
   obtain ⟨Ao27, co27, eo27⟩ := Kd.N_slice HO_6.out
   subst eo27
   go_wp2_with (first | ((with_reducible refine gate_callee (f := 9) rfl ?_); refine goesL_ (some 82) rfl rfl Try.func9 (by kernel_rfl) rfl #[] rfl (by (try simp only [List.map_toArray, List.map_cons, List.map_nil]); first | done | rfl | (simp only [List.length_drop, List.length_take]; rfl)) ?_; (with_reducible refine (interregnumlaw16_answers.calls  false _ A20.out).mono ?_); rintro e w28 ⟨rfl, hb⟩; refine ⟨_, rfl, ?_⟩; have n0_ := Aside0.mk (Kd.N_below (by (with_reducible repeat (first | apply Kd.N_alloc | apply Kd.N_drewN | apply Kd.N_drew)); exact HO_6.out) hb); have n1_ := Aside0.mk (below_step (by repeat (first | (with_reducible first | exact HB.out | apply below_alloc | apply pw_below_drewN | apply below_drew1) | exact HB.out)) hb); clear HO_6; clear HB; have HO_6 := n0_; have HB := n1_; clear n0_ n1_; (try clear hb); (try clear hb2); (try clear hk); (try clear hi)))
   go_ret
   exact ⟨by first | rfl | (simp [errW_none, errW_some] <;> rfl) | (simp [*, errW_none, errW_some] <;> rfl), by repeat (first | (with_reducible first | exact HB.out | apply below_alloc | apply pw_below_drewN | apply below_drew1) | exact HB.out)⟩
  subst c21
  have H1 : (if x7_2 = (wrap64 (Int.tmod a0 450)) then (some ((t153.length : Int) == (wrap64 (Int.tdiv (wrap64 ((wrap64 (Int.tmod a0 450)) + 99)) 100)))) else (some false)) = some r := by rw [if_pos rfl] at H; exact H
  clear H
  have H := H1
  clear H1
  by_cases c22 : x7_2 = (wrap64 (Int.tmod a0 450))
  rotate_left
  ·rw [if_neg c22] at H
   have c22b0 : (x7_2 == (wrap64 (Int.tmod a0 450))) = false := beq_eq_false_iff_ne.mpr c22
   have c22b1 : (x7_2 != (wrap64 (Int.tmod a0 450))) = true := bne_iff_ne.mpr c22
   obtain rfl := Option.some.inj H
   obtain ⟨Ao25, co25, eo25⟩ := Kd.N_slice HO_6.out
   subst eo25
   go_wp2_with (first | ((with_reducible refine gate_callee (f := 9) rfl ?_); refine goesL_ (some 82) rfl rfl Try.func9 (by kernel_rfl) rfl #[] rfl (by (try simp only [List.map_toArray, List.map_cons, List.map_nil]); first | done | rfl | (simp only [List.length_drop, List.length_take]; rfl)) ?_; (with_reducible refine (interregnumlaw16_answers.calls  true _ A20.out).mono ?_); rintro e w26 ⟨rfl, hb⟩; refine ⟨_, rfl, ?_⟩; have n0_ := Aside0.mk (Kd.N_below (by (with_reducible repeat (first | apply Kd.N_alloc | apply Kd.N_drewN | apply Kd.N_drew)); exact HO_6.out) hb); have n1_ := Aside0.mk (below_step (by repeat (first | (with_reducible first | exact HB.out | apply below_alloc | apply pw_below_drewN | apply below_drew1) | exact HB.out)) hb); clear HO_6; clear HB; have HO_6 := n0_; have HB := n1_; clear n0_ n1_; (try clear hb); (try clear hb2); (try clear hk); (try clear hi)))
   go_ret
   exact ⟨by first | rfl | (simp [errW_none, errW_some] <;> rfl) | (simp [*, errW_none, errW_some] <;> rfl), by repeat (first | (with_reducible first | exact HB.out | apply below_alloc | apply pw_below_drewN | apply below_drew1) | exact HB.out)⟩
  rw [if_pos c22] at H
  have c22b0 : (x7_2 == (wrap64 (Int.tmod a0 450))) = true := beq_iff_eq.mpr c22
  have c22b1 : (x7_2 != (wrap64 (Int.tmod a0 450))) = false := bne_eq_false_iff_eq.mpr c22
  clear c22
  obtain rfl := Option.some.inj H
  obtain ⟨Ao23, co23, eo23⟩ := Kd.N_slice HO_6.out
  subst eo23
  go_wp2_with (first | ((with_reducible refine gate_callee (f := 9) rfl ?_); refine goesL_ (some 82) rfl rfl Try.func9 (by kernel_rfl) rfl #[] rfl (by (try simp only [List.map_toArray, List.map_cons, List.map_nil]); first | done | rfl | (simp only [List.length_drop, List.length_take]; rfl)) ?_; (with_reducible refine (interregnumlaw16_answers.calls  true _ A20.out).mono ?_); rintro e w24 ⟨rfl, hb⟩; refine ⟨_, rfl, ?_⟩; have n0_ := Aside0.mk (Kd.N_below (by (with_reducible repeat (first | apply Kd.N_alloc | apply Kd.N_drewN | apply Kd.N_drew)); exact HO_6.out) hb); have n1_ := Aside0.mk (below_step (by repeat (first | (with_reducible first | exact HB.out | apply below_alloc | apply pw_below_drewN | apply below_drew1) | exact HB.out)) hb); clear HO_6; clear HB; have HO_6 := n0_; have HB := n1_; clear n0_ n1_; (try clear hb); (try clear hb2); (try clear hk); (try clear hi)))
  go_ret
  exact ⟨by first | rfl | (simp [errW_none, errW_some] <;> rfl) | (simp [*, errW_none, errW_some] <;> rfl), by repeat (first | (with_reducible first | exact HB.out | apply below_alloc | apply pw_below_drewN | apply below_drew1) | exact HB.out)⟩
 rw [if_pos c8] at H
 have c8b0 : decide (x8_2 < (t153.length : Int)) = true := decide_eq_true c8
 clear c8
 have HC9 := Aside0.mk H
 clear H
 obtain ⟨Ao10, co10, eo10⟩ := Kd.N_slice HO_6.out
 subst eo10
 go_upto_region 12 with (fail)
 go_cut [56] (fun v56 wc => ∃ (kq : Nat) (x56_8 : Bool), v56 = .bool x56_8 ∧ Aside0 (interregnumlaw16_ExportGone.j2 kq (wrap64 (Int.tmod a0 450)) t153 x7_2 x8_2 x56_8 = some r) ∧ Aside0 (kq ≤ k2) ∧ Aside0 (Kd.N k57 57 wc w.heap.size (fun _ => True) (.slice Ao10 t153.length co10) t153) ∧ Aside0 (Below w.heap.size w wc))
 case first =>
  have H := HC9.out
  clear HC9
  by_cases c11 : 0 ≤ x8_2
  rotate_left
  ·rw [if_neg c11] at H
   exact absurd H (by simp)
  rw [if_pos c11] at H
  have c11b0 : decide (0 ≤ x8_2) = true := decide_eq_true c11
  clear c11
  (first | rw [c11b0] | (simp only [i64_w, i32_w]; rw [c11b0]) | skip)
  by_cases c12 : (((rd_T57 t153 x8_2).f2).length : Int) > 0
  ·rw [if_pos c12] at H
   have c12b0 : decide (0 < (((rd_T57 t153 x8_2).f2).length : Int)) = true := decide_eq_true c12
   have c12b1 : decide (0 < ((rd_T57 t153 x8_2).f2).length) = true := decide_eq_true (by omega)
   clear c12
   have H' := Aside0.mk H
   clear H
   have p156 : 0 ≤ (x8_2 : Int) := of_decide_eq_true (by first | (with_reducible assumption) | assumption)
   have q156 : x8_2 < (t153.length : Int) := of_decide_eq_true (by first | (with_reducible assumption) | assumption)
   obtain ⟨ad156, A156_0, c156_0, A156_2, c156_2, A156_6, c156_6, A156_7, c156_7, A156_8, c156_8, e156, hx156_0, hx156_1, hx156_2, hx156_3, hx156_4, hx156_5, hx156_6, hx156_7, hx156_8, hl156_0, hi156_0, hl156_2, hi156_2, hl156_6, hi156_6, hl156_7, hi156_7, hl156_8, hi156_8⟩ := at_T57 (Kd.N_reads' HO_6.out).2.2 x8_2 p156 q156
   cases e156
   obtain ⟨ce156, hce156, hMe156, hcc156⟩ := Kd.N_get HO_6.out z57 x8_2 p156 (by first | exact q156 | exact of_decide_eq_true (by first | (with_reducible assumption) | assumption) | (have e_ := (Kd.N_reads' HO_6.out).1; omega))
   obtain ⟨ua156_0, uc156_0, ua156_2, uc156_2, ua156_6, uc156_6, ua156_7, uc156_7, ua156_8, uc156_8, rfl, ul156_0, ge156_0, ul156_2, ge156_2, ul156_6, ge156_6, ul156_7, ge156_7, ul156_8, ge156_8⟩ := k57_openF hMe156
   have hv156_0 := hcc156 0 _ rfl
   rw [Nat.add_zero] at hv156_0
   replace hv156_0 := Option.some.inj (hv156_0.symm.trans hx156_0)
   injection hv156_0 with hva_ hvn_ hvc_
   rw [hva_] at ge156_0
   rw [hvc_] at ul156_0
   have HL156_0 := Aside0.mk (show Kd.V k29 29 _ w.heap.size _ _ ((rd_T57 t153 x8_2).f0) from Kd.V_mk ul156_0 ge156_0)
   clear hva_ hvn_ hvc_ ge156_0 ul156_0
   have hv156_2 := hcc156 2 _ rfl
   rw [add_field _ _ 2 (by omega)] at hv156_2
   replace hv156_2 := Option.some.inj (hv156_2.symm.trans hx156_2)
   injection hv156_2 with hva_ hvn_ hvc_
   rw [hva_] at ge156_2
   rw [hvc_] at ul156_2
   have HL156_2 := Aside0.mk (show Kd.V k69 69 _ w.heap.size _ _ ((rd_T57 t153 x8_2).f1.f1) from Kd.V_mk ul156_2 ge156_2)
   clear hva_ hvn_ hvc_ ge156_2 ul156_2
   have hv156_6 := hcc156 6 _ rfl
   rw [add_field _ _ 6 (by omega)] at hv156_6
   replace hv156_6 := Option.some.inj (hv156_6.symm.trans hx156_6)
   injection hv156_6 with hva_ hvn_ hvc_
   rw [hva_] at ge156_6
   rw [hvc_] at ul156_6
   have HL156_6 := Aside0.mk (show Kd.V (Kd.int .u32) 22 _ w.heap.size _ _ ((rd_T57 t153 x8_2).f1.f5) from Kd.V_mk ul156_6 ge156_6)
   clear hva_ hvn_ hvc_ ge156_6 ul156_6
   have hv156_7 := hcc156 7 _ rfl
   rw [add_field _ _ 7 (by omega)] at hv156_7
   replace hv156_7 := Option.some.inj (hv156_7.symm.trans hx156_7)
   injection hv156_7 with hva_ hvn_ hvc_
   rw [hva_] at ge156_7
   rw [hvc_] at ul156_7
   have HL156_7 := Aside0.mk (show Kd.V k73 73 _ w.heap.size _ _ ((rd_T57 t153 x8_2).f1.f6) from Kd.V_mk ul156_7 ge156_7)
   clear hva_ hvn_ hvc_ ge156_7 ul156_7
   have hv156_8 := hcc156 8 _ rfl
   rw [add_field _ _ 8 (by omega)] at hv156_8
   replace hv156_8 := Option.some.inj (hv156_8.symm.trans hx156_8)
   injection hv156_8 with hva_ hvn_ hvc_
   rw [hva_] at ge156_8
   rw [hvc_] at ul156_8
   have HL156_8 := Aside0.mk (show Kd.V k29 29 _ w.heap.size _ _ ((rd_T57 t153 x8_2).f2) from Kd.V_mk ul156_8 ge156_8)
   clear hva_ hvn_ hvc_ ge156_8 ul156_8
   clear hcc156 hce156
   have HR156_0 := Aside0.mk hi156_0
   have HC156_0 := Aside0.mk hl156_0
   clear hi156_0 hl156_0
   have HR156_2 := Aside0.mk hi156_2
   have HC156_2 := Aside0.mk hl156_2
   clear hi156_2 hl156_2
   have HR156_6 := Aside0.mk hi156_6
   have HC156_6 := Aside0.mk hl156_6
   clear hi156_6 hl156_6
   have HR156_7 := Aside0.mk hi156_7
   have HC156_7 := Aside0.mk hl156_7
   clear hi156_7 hl156_7
   have HR156_8 := Aside0.mk hi156_8
   have HC156_8 := Aside0.mk hl156_8
   clear hi156_8 hl156_8
   replace p156 := eq_true p156
   replace q156 := eq_true q156
   go_wp2
   go_meet
   case rel => exact ⟨_, (true), (by first | rfl | (simp; done) | (simp [*]; done)), H', ⟨by have := HK1.out; have := HK2.out; first | omega | exact Nat.le_refl _⟩, ⟨by (with_reducible repeat (first | apply Kd.N_alloc | apply Kd.N_drewN | apply Kd.N_drew)); exact HO_6.out⟩, ⟨by repeat (first | (with_reducible first | exact HB.out | apply below_alloc | apply pw_below_drewN | apply below_drew1) | exact HB.out)⟩⟩
  rw [if_neg c12] at H
  have c12b0 : decide (0 < (((rd_T57 t153 x8_2).f2).length : Int)) = false := decide_eq_false c12
  have c12b1 : decide (0 < ((rd_T57 t153 x8_2).f2).length) = false := decide_eq_false (by omega)
  clear c12
  by_cases c13 : x8_2 < (wrap64 ((t153.length : Int) - 1))
  rotate_left
  ·rw [if_neg c13] at H
   have c13b0 : decide (x8_2 < (wrap64 ((t153.length : Int) - 1))) = false := decide_eq_false c13
   clear c13
   have H' := Aside0.mk H
   clear H
   have p156 : 0 ≤ (x8_2 : Int) := of_decide_eq_true (by first | (with_reducible assumption) | assumption)
   have q156 : x8_2 < (t153.length : Int) := of_decide_eq_true (by first | (with_reducible assumption) | assumption)
   obtain ⟨ad156, A156_0, c156_0, A156_2, c156_2, A156_6, c156_6, A156_7, c156_7, A156_8, c156_8, e156, hx156_0, hx156_1, hx156_2, hx156_3, hx156_4, hx156_5, hx156_6, hx156_7, hx156_8, hl156_0, hi156_0, hl156_2, hi156_2, hl156_6, hi156_6, hl156_7, hi156_7, hl156_8, hi156_8⟩ := at_T57 (Kd.N_reads' HO_6.out).2.2 x8_2 p156 q156
   cases e156
   obtain ⟨ce156, hce156, hMe156, hcc156⟩ := Kd.N_get HO_6.out z57 x8_2 p156 (by first | exact q156 | exact of_decide_eq_true (by first | (with_reducible assumption) | assumption) | (have e_ := (Kd.N_reads' HO_6.out).1; omega))
   obtain ⟨ua156_0, uc156_0, ua156_2, uc156_2, ua156_6, uc156_6, ua156_7, uc156_7, ua156_8, uc156_8, rfl, ul156_0, ge156_0, ul156_2, ge156_2, ul156_6, ge156_6, ul156_7, ge156_7, ul156_8, ge156_8⟩ := k57_openF hMe156
   have hv156_0 := hcc156 0 _ rfl
   rw [Nat.add_zero] at hv156_0
   replace hv156_0 := Option.some.inj (hv156_0.symm.trans hx156_0)
   injection hv156_0 with hva_ hvn_ hvc_
   rw [hva_] at ge156_0
   rw [hvc_] at ul156_0
   have HL156_0 := Aside0.mk (show Kd.V k29 29 _ w.heap.size _ _ ((rd_T57 t153 x8_2).f0) from Kd.V_mk ul156_0 ge156_0)
   clear hva_ hvn_ hvc_ ge156_0 ul156_0
   have hv156_2 := hcc156 2 _ rfl
   rw [add_field _ _ 2 (by omega)] at hv156_2
   replace hv156_2 := Option.some.inj (hv156_2.symm.trans hx156_2)
   injection hv156_2 with hva_ hvn_ hvc_
   rw [hva_] at ge156_2
   rw [hvc_] at ul156_2
   have HL156_2 := Aside0.mk (show Kd.V k69 69 _ w.heap.size _ _ ((rd_T57 t153 x8_2).f1.f1) from Kd.V_mk ul156_2 ge156_2)
   clear hva_ hvn_ hvc_ ge156_2 ul156_2
   have hv156_6 := hcc156 6 _ rfl
   rw [add_field _ _ 6 (by omega)] at hv156_6
   replace hv156_6 := Option.some.inj (hv156_6.symm.trans hx156_6)
   injection hv156_6 with hva_ hvn_ hvc_
   rw [hva_] at ge156_6
   rw [hvc_] at ul156_6
   have HL156_6 := Aside0.mk (show Kd.V (Kd.int .u32) 22 _ w.heap.size _ _ ((rd_T57 t153 x8_2).f1.f5) from Kd.V_mk ul156_6 ge156_6)
   clear hva_ hvn_ hvc_ ge156_6 ul156_6
   have hv156_7 := hcc156 7 _ rfl
   rw [add_field _ _ 7 (by omega)] at hv156_7
   replace hv156_7 := Option.some.inj (hv156_7.symm.trans hx156_7)
   injection hv156_7 with hva_ hvn_ hvc_
   rw [hva_] at ge156_7
   rw [hvc_] at ul156_7
   have HL156_7 := Aside0.mk (show Kd.V k73 73 _ w.heap.size _ _ ((rd_T57 t153 x8_2).f1.f6) from Kd.V_mk ul156_7 ge156_7)
   clear hva_ hvn_ hvc_ ge156_7 ul156_7
   have hv156_8 := hcc156 8 _ rfl
   rw [add_field _ _ 8 (by omega)] at hv156_8
   replace hv156_8 := Option.some.inj (hv156_8.symm.trans hx156_8)
   injection hv156_8 with hva_ hvn_ hvc_
   rw [hva_] at ge156_8
   rw [hvc_] at ul156_8
   have HL156_8 := Aside0.mk (show Kd.V k29 29 _ w.heap.size _ _ ((rd_T57 t153 x8_2).f2) from Kd.V_mk ul156_8 ge156_8)
   clear hva_ hvn_ hvc_ ge156_8 ul156_8
   clear hcc156 hce156
   have HR156_0 := Aside0.mk hi156_0
   have HC156_0 := Aside0.mk hl156_0
   clear hi156_0 hl156_0
   have HR156_2 := Aside0.mk hi156_2
   have HC156_2 := Aside0.mk hl156_2
   clear hi156_2 hl156_2
   have HR156_6 := Aside0.mk hi156_6
   have HC156_6 := Aside0.mk hl156_6
   clear hi156_6 hl156_6
   have HR156_7 := Aside0.mk hi156_7
   have HC156_7 := Aside0.mk hl156_7
   clear hi156_7 hl156_7
   have HR156_8 := Aside0.mk hi156_8
   have HC156_8 := Aside0.mk hl156_8
   clear hi156_8 hl156_8
   replace p156 := eq_true p156
   replace q156 := eq_true q156
   go_wp2
   go_meet
   case rel => exact ⟨_, (false), (by first | rfl | (simp; done) | (simp [*]; done)), H', ⟨by have := HK1.out; have := HK2.out; first | omega | exact Nat.le_refl _⟩, ⟨by (with_reducible repeat (first | apply Kd.N_alloc | apply Kd.N_drewN | apply Kd.N_drew)); exact HO_6.out⟩, ⟨by repeat (first | (with_reducible first | exact HB.out | apply below_alloc | apply pw_below_drewN | apply below_drew1) | exact HB.out)⟩⟩
  rw [if_pos c13] at H
  have c13b0 : decide (x8_2 < (wrap64 ((t153.length : Int) - 1))) = true := decide_eq_true c13
  clear c13
  have H' := Aside0.mk H
  clear H
  have p156 : 0 ≤ (x8_2 : Int) := of_decide_eq_true (by first | (with_reducible assumption) | assumption)
  have q156 : x8_2 < (t153.length : Int) := of_decide_eq_true (by first | (with_reducible assumption) | assumption)
  obtain ⟨ad156, A156_0, c156_0, A156_2, c156_2, A156_6, c156_6, A156_7, c156_7, A156_8, c156_8, e156, hx156_0, hx156_1, hx156_2, hx156_3, hx156_4, hx156_5, hx156_6, hx156_7, hx156_8, hl156_0, hi156_0, hl156_2, hi156_2, hl156_6, hi156_6, hl156_7, hi156_7, hl156_8, hi156_8⟩ := at_T57 (Kd.N_reads' HO_6.out).2.2 x8_2 p156 q156
  cases e156
  obtain ⟨ce156, hce156, hMe156, hcc156⟩ := Kd.N_get HO_6.out z57 x8_2 p156 (by first | exact q156 | exact of_decide_eq_true (by first | (with_reducible assumption) | assumption) | (have e_ := (Kd.N_reads' HO_6.out).1; omega))
  obtain ⟨ua156_0, uc156_0, ua156_2, uc156_2, ua156_6, uc156_6, ua156_7, uc156_7, ua156_8, uc156_8, rfl, ul156_0, ge156_0, ul156_2, ge156_2, ul156_6, ge156_6, ul156_7, ge156_7, ul156_8, ge156_8⟩ := k57_openF hMe156
  have hv156_0 := hcc156 0 _ rfl
  rw [Nat.add_zero] at hv156_0
  replace hv156_0 := Option.some.inj (hv156_0.symm.trans hx156_0)
  injection hv156_0 with hva_ hvn_ hvc_
  rw [hva_] at ge156_0
  rw [hvc_] at ul156_0
  have HL156_0 := Aside0.mk (show Kd.V k29 29 _ w.heap.size _ _ ((rd_T57 t153 x8_2).f0) from Kd.V_mk ul156_0 ge156_0)
  clear hva_ hvn_ hvc_ ge156_0 ul156_0
  have hv156_2 := hcc156 2 _ rfl
  rw [add_field _ _ 2 (by omega)] at hv156_2
  replace hv156_2 := Option.some.inj (hv156_2.symm.trans hx156_2)
  injection hv156_2 with hva_ hvn_ hvc_
  rw [hva_] at ge156_2
  rw [hvc_] at ul156_2
  have HL156_2 := Aside0.mk (show Kd.V k69 69 _ w.heap.size _ _ ((rd_T57 t153 x8_2).f1.f1) from Kd.V_mk ul156_2 ge156_2)
  clear hva_ hvn_ hvc_ ge156_2 ul156_2
  have hv156_6 := hcc156 6 _ rfl
  rw [add_field _ _ 6 (by omega)] at hv156_6
  replace hv156_6 := Option.some.inj (hv156_6.symm.trans hx156_6)
  injection hv156_6 with hva_ hvn_ hvc_
  rw [hva_] at ge156_6
  rw [hvc_] at ul156_6
  have HL156_6 := Aside0.mk (show Kd.V (Kd.int .u32) 22 _ w.heap.size _ _ ((rd_T57 t153 x8_2).f1.f5) from Kd.V_mk ul156_6 ge156_6)
  clear hva_ hvn_ hvc_ ge156_6 ul156_6
  have hv156_7 := hcc156 7 _ rfl
  rw [add_field _ _ 7 (by omega)] at hv156_7
  replace hv156_7 := Option.some.inj (hv156_7.symm.trans hx156_7)
  injection hv156_7 with hva_ hvn_ hvc_
  rw [hva_] at ge156_7
  rw [hvc_] at ul156_7
  have HL156_7 := Aside0.mk (show Kd.V k73 73 _ w.heap.size _ _ ((rd_T57 t153 x8_2).f1.f6) from Kd.V_mk ul156_7 ge156_7)
  clear hva_ hvn_ hvc_ ge156_7 ul156_7
  have hv156_8 := hcc156 8 _ rfl
  rw [add_field _ _ 8 (by omega)] at hv156_8
  replace hv156_8 := Option.some.inj (hv156_8.symm.trans hx156_8)
  injection hv156_8 with hva_ hvn_ hvc_
  rw [hva_] at ge156_8
  rw [hvc_] at ul156_8
  have HL156_8 := Aside0.mk (show Kd.V k29 29 _ w.heap.size _ _ ((rd_T57 t153 x8_2).f2) from Kd.V_mk ul156_8 ge156_8)
  clear hva_ hvn_ hvc_ ge156_8 ul156_8
  clear hcc156 hce156
  have HR156_0 := Aside0.mk hi156_0
  have HC156_0 := Aside0.mk hl156_0
  clear hi156_0 hl156_0
  have HR156_2 := Aside0.mk hi156_2
  have HC156_2 := Aside0.mk hl156_2
  clear hi156_2 hl156_2
  have HR156_6 := Aside0.mk hi156_6
  have HC156_6 := Aside0.mk hl156_6
  clear hi156_6 hl156_6
  have HR156_7 := Aside0.mk hi156_7
  have HC156_7 := Aside0.mk hl156_7
  clear hi156_7 hl156_7
  have HR156_8 := Aside0.mk hi156_8
  have HC156_8 := Aside0.mk hl156_8
  clear hi156_8 hl156_8
  replace p156 := eq_true p156
  replace q156 := eq_true q156
  have p157 : 0 ≤ (x8_2 : Int) := of_decide_eq_true (by first | (with_reducible assumption) | assumption)
  have q157 : x8_2 < (t153.length : Int) := of_decide_eq_true (by first | (with_reducible assumption) | assumption)
  obtain ⟨ad157, A157_0, c157_0, A157_2, c157_2, A157_6, c157_6, A157_7, c157_7, A157_8, c157_8, e157, hx157_0, hx157_1, hx157_2, hx157_3, hx157_4, hx157_5, hx157_6, hx157_7, hx157_8, hl157_0, hi157_0, hl157_2, hi157_2, hl157_6, hi157_6, hl157_7, hi157_7, hl157_8, hi157_8⟩ := at_T57 (Kd.N_reads' HO_6.out).2.2 x8_2 p157 q157
  obtain rfl : ad156 = ad157 := (by injection e157)
  obtain ⟨ce157, hce157, hMe157, hcc157⟩ := Kd.N_get HO_6.out z57 x8_2 p157 (by first | exact q157 | exact of_decide_eq_true (by first | (with_reducible assumption) | assumption) | (have e_ := (Kd.N_reads' HO_6.out).1; omega))
  obtain ⟨ua157_0, uc157_0, ua157_2, uc157_2, ua157_6, uc157_6, ua157_7, uc157_7, ua157_8, uc157_8, rfl, ul157_0, ge157_0, ul157_2, ge157_2, ul157_6, ge157_6, ul157_7, ge157_7, ul157_8, ge157_8⟩ := k57_openF hMe157
  have hv157_0 := hcc157 0 _ rfl
  rw [Nat.add_zero] at hv157_0
  replace hv157_0 := Option.some.inj (hv157_0.symm.trans hx157_0)
  injection hv157_0 with hva_ hvn_ hvc_
  rw [hva_] at ge157_0
  rw [hvc_] at ul157_0
  have HL157_0 := Aside0.mk (show Kd.V k29 29 _ w.heap.size _ _ ((rd_T57 t153 x8_2).f0) from Kd.V_mk ul157_0 ge157_0)
  clear hva_ hvn_ hvc_ ge157_0 ul157_0
  have hv157_2 := hcc157 2 _ rfl
  rw [add_field _ _ 2 (by omega)] at hv157_2
  replace hv157_2 := Option.some.inj (hv157_2.symm.trans hx157_2)
  injection hv157_2 with hva_ hvn_ hvc_
  rw [hva_] at ge157_2
  rw [hvc_] at ul157_2
  have HL157_2 := Aside0.mk (show Kd.V k69 69 _ w.heap.size _ _ ((rd_T57 t153 x8_2).f1.f1) from Kd.V_mk ul157_2 ge157_2)
  clear hva_ hvn_ hvc_ ge157_2 ul157_2
  have hv157_6 := hcc157 6 _ rfl
  rw [add_field _ _ 6 (by omega)] at hv157_6
  replace hv157_6 := Option.some.inj (hv157_6.symm.trans hx157_6)
  injection hv157_6 with hva_ hvn_ hvc_
  rw [hva_] at ge157_6
  rw [hvc_] at ul157_6
  have HL157_6 := Aside0.mk (show Kd.V (Kd.int .u32) 22 _ w.heap.size _ _ ((rd_T57 t153 x8_2).f1.f5) from Kd.V_mk ul157_6 ge157_6)
  clear hva_ hvn_ hvc_ ge157_6 ul157_6
  have hv157_7 := hcc157 7 _ rfl
  rw [add_field _ _ 7 (by omega)] at hv157_7
  replace hv157_7 := Option.some.inj (hv157_7.symm.trans hx157_7)
  injection hv157_7 with hva_ hvn_ hvc_
  rw [hva_] at ge157_7
  rw [hvc_] at ul157_7
  have HL157_7 := Aside0.mk (show Kd.V k73 73 _ w.heap.size _ _ ((rd_T57 t153 x8_2).f1.f6) from Kd.V_mk ul157_7 ge157_7)
  clear hva_ hvn_ hvc_ ge157_7 ul157_7
  have hv157_8 := hcc157 8 _ rfl
  rw [add_field _ _ 8 (by omega)] at hv157_8
  replace hv157_8 := Option.some.inj (hv157_8.symm.trans hx157_8)
  injection hv157_8 with hva_ hvn_ hvc_
  rw [hva_] at ge157_8
  rw [hvc_] at ul157_8
  have HL157_8 := Aside0.mk (show Kd.V k29 29 _ w.heap.size _ _ ((rd_T57 t153 x8_2).f2) from Kd.V_mk ul157_8 ge157_8)
  clear hva_ hvn_ hvc_ ge157_8 ul157_8
  clear hcc157 hce157
  have HR157_0 := Aside0.mk hi157_0
  have HC157_0 := Aside0.mk hl157_0
  clear hi157_0 hl157_0
  have HR157_2 := Aside0.mk hi157_2
  have HC157_2 := Aside0.mk hl157_2
  clear hi157_2 hl157_2
  have HR157_6 := Aside0.mk hi157_6
  have HC157_6 := Aside0.mk hl157_6
  clear hi157_6 hl157_6
  have HR157_7 := Aside0.mk hi157_7
  have HC157_7 := Aside0.mk hl157_7
  clear hi157_7 hl157_7
  have HR157_8 := Aside0.mk hi157_8
  have HC157_8 := Aside0.mk hl157_8
  clear hi157_8 hl157_8
  replace p157 := eq_true p157
  replace q157 := eq_true q157
  have ea_ := Option.some.inj (hx156_0.symm.trans hx157_0)
  injection ea_ with ea_ en_ ec_
  subst ea_
  subst ec_
  clear en_
  have ea_ := Option.some.inj (hx156_2.symm.trans hx157_2)
  injection ea_ with ea_ en_ ec_
  subst ea_
  subst ec_
  clear en_
  have ea_ := Option.some.inj (hx156_6.symm.trans hx157_6)
  injection ea_ with ea_ en_ ec_
  subst ea_
  subst ec_
  clear en_
  have ea_ := Option.some.inj (hx156_7.symm.trans hx157_7)
  injection ea_ with ea_ en_ ec_
  subst ea_
  subst ec_
  clear en_
  have ea_ := Option.some.inj (hx156_8.symm.trans hx157_8)
  injection ea_ with ea_ en_ ec_
  subst ea_
  subst ec_
  clear en_
  go_wp2
  go_meet
  case rel => exact ⟨_, (((((rd_T57 t153 x8_2).f0).length : Int) != 100)), (by first | rfl | (simp; done) | (simp [*]; done)), H', ⟨by have := HK1.out; have := HK2.out; first | omega | exact Nat.le_refl _⟩, ⟨by (with_reducible repeat (first | apply Kd.N_alloc | apply Kd.N_drewN | apply Kd.N_drew)); exact HO_6.out⟩, ⟨by repeat (first | (with_reducible first | exact HB.out | apply below_alloc | apply pw_below_drewN | apply below_drew1) | exact HB.out)⟩⟩
 case rest =>
  clear HC9
  try clear c1
  try clear p1
  try clear q1
  try clear hx1
  try clear c2
  try clear c2b0
  try clear p2
  try clear c3
  try clear c6
  try clear p6
  try clear c8
  try clear c8b0
  try clear c11
  try clear c11b0
  try clear c12
  try clear c12b0
  try clear c12b1
  try clear c13
  try clear c13b0
  try clear hx156_0
  try clear hx156_1
  try clear hx156_2
  try clear hx156_3
  try clear hx156_4
  try clear hx156_5
  try clear hx156_6
  try clear hx156_7
  try clear hx156_8
  try clear hx157_0
  try clear hx157_1
  try clear hx157_2
  try clear hx157_3
  try clear hx157_4
  try clear hx157_5
  try clear hx157_6
  try clear hx157_7
  try clear hx157_8
  try clear p156
  try clear p157
  try clear p2
  try clear p6
  try clear q156
  try clear q157
  obtain ⟨kq, x56_8, rfl, HA, HJ8, HO_6, HB⟩ := hcut
  cases kq with
  | zero => exact absurd HA.out (by simp [interregnumlaw16_ExportGone.j2])
  | succ kj8 =>
  have H := HA.out
  clear HA
  simp only [interregnumlaw16_ExportGone.j2] at H
  by_cases c14 : x56_8 = true
  ·subst c14
   have H1 : (some false) = some r := by rw [if_pos rfl] at H; exact H
   clear H
   have H := H1
   clear H1
   obtain rfl := Option.some.inj H
   go_wp2
   go_ret
   exact ⟨by first | rfl | (simp [errW_none, errW_some] <;> rfl) | (simp [*, errW_none, errW_some] <;> rfl), by repeat (first | (with_reducible first | exact HB.out | apply below_alloc | apply pw_below_drewN | apply below_drew1) | exact HB.out)⟩
  replace c14 := Bool.eq_false_iff.mpr c14
  subst c14
  have H1 : (interregnumlaw16_ExportGone.l2 kj8 (wrap64 (Int.tmod a0 450)) t153 x7_2 x8_2 0) = some r := by rw [if_neg (show ¬ (false = true) by decide)] at H; exact H
  clear H
  have H := H1
  clear H1
  have H' := Aside0.mk H
  clear H
  go_wp2
  go_loopg [7, 9] kj8 (fun kq v7 v9 w' => ∃ (x7_4 : Int) (x9_4 : Int), v7 = .int .i64 x7_4 ∧ v9 = .int .i64 x9_4 ∧ Aside0 (interregnumlaw16_ExportGone.l2 kq (wrap64 (Int.tmod a0 450)) t153 x7_4 x8_2 x9_4 = some r) ∧ Aside0 (kq ≤ kj8) ∧ Aside0 (Kd.N k57 57 w' w.heap.size (fun _ => True) (.slice Ao10 t153.length co10) t153) ∧ Aside0 (Below w.heap.size w w'))
  case atStart => exact ⟨(x7_2), (0), (by first | rfl | (simp; done) | (simp [*]; done)), (by first | rfl | (simp; done) | (simp [*]; done)), H', ⟨Nat.le_refl _⟩, ⟨by (with_reducible repeat (first | apply Kd.N_alloc | apply Kd.N_drewN | apply Kd.N_drew)); exact HO_6.out⟩, ⟨by repeat (first | (with_reducible first | exact HB.out | apply below_alloc | apply pw_below_drewN | apply below_drew1) | exact HB.out)⟩⟩
  clear H'
  try clear c1
  try clear p1
  try clear q1
  try clear hx1
  try clear c2
  try clear c2b0
  try clear p2
  try clear c3
  try clear c6
  try clear p6
  try clear c8
  try clear c8b0
  try clear c11
  try clear c11b0
  try clear c12
  try clear c12b0
  try clear c12b1
  try clear c13
  try clear c13b0
  try clear c14
  try clear hx156_0
  try clear hx156_1
  try clear hx156_2
  try clear hx156_3
  try clear hx156_4
  try clear hx156_5
  try clear hx156_6
  try clear hx156_7
  try clear hx156_8
  try clear hx157_0
  try clear hx157_1
  try clear hx157_2
  try clear hx157_3
  try clear hx157_4
  try clear hx157_5
  try clear hx157_6
  try clear hx157_7
  try clear hx157_8
  try clear p1
  try clear p156
  try clear p157
  try clear p2
  try clear p6
  try clear q1
  try clear q156
  try clear q157
  obtain ⟨x7_4, x9_4, rfl, rfl, HA, HK4, HO_6, HB⟩ := hrel
  cases gk with
  | zero => exact absurd HA.out (by simp [interregnumlaw16_ExportGone.l2])
  | succ k4 =>
  have H := HA.out
  clear HA
  simp only [interregnumlaw16_ExportGone.l2] at H
  by_cases c15 : 0 ≤ x8_2
  rotate_left
  ·rw [if_neg c15] at H
   exact absurd H (by simp)
  rw [if_pos c15] at H
  have c15b0 : decide (0 ≤ x8_2) = true := decide_eq_true c15
  clear c15
  by_cases c16 : x8_2 < (t153.length : Int)
  rotate_left
  ·rw [if_neg c16] at H
   exact absurd H (by simp)
  rw [if_pos c16] at H
  have c16b0 : decide (x8_2 < (t153.length : Int)) = true := decide_eq_true c16
  clear c16
  by_cases c17 : x9_4 < (((rd_T57 t153 x8_2).f0).length : Int)
  rotate_left
  ·rw [if_neg c17] at H
   have c17b0 : decide (x9_4 < (((rd_T57 t153 x8_2).f0).length : Int)) = false := decide_eq_false c17
   clear c17
   have H' := Aside0.mk H
   clear H
   have p158 : 0 ≤ (x8_2 : Int) := of_decide_eq_true (by first | (with_reducible assumption) | assumption)
   have q158 : x8_2 < (t153.length : Int) := of_decide_eq_true (by first | (with_reducible assumption) | assumption)
   obtain ⟨ad158, A158_0, c158_0, A158_2, c158_2, A158_6, c158_6, A158_7, c158_7, A158_8, c158_8, e158, hx158_0, hx158_1, hx158_2, hx158_3, hx158_4, hx158_5, hx158_6, hx158_7, hx158_8, hl158_0, hi158_0, hl158_2, hi158_2, hl158_6, hi158_6, hl158_7, hi158_7, hl158_8, hi158_8⟩ := at_T57 (Kd.N_reads' HO_6.out).2.2 x8_2 p158 q158
   cases e158
   obtain ⟨ce158, hce158, hMe158, hcc158⟩ := Kd.N_get HO_6.out z57 x8_2 p158 (by first | exact q158 | exact of_decide_eq_true (by first | (with_reducible assumption) | assumption) | (have e_ := (Kd.N_reads' HO_6.out).1; omega))
   obtain ⟨ua158_0, uc158_0, ua158_2, uc158_2, ua158_6, uc158_6, ua158_7, uc158_7, ua158_8, uc158_8, rfl, ul158_0, ge158_0, ul158_2, ge158_2, ul158_6, ge158_6, ul158_7, ge158_7, ul158_8, ge158_8⟩ := k57_openF hMe158
   have hv158_0 := hcc158 0 _ rfl
   rw [Nat.add_zero] at hv158_0
   replace hv158_0 := Option.some.inj (hv158_0.symm.trans hx158_0)
   injection hv158_0 with hva_ hvn_ hvc_
   rw [hva_] at ge158_0
   rw [hvc_] at ul158_0
   have HL158_0 := Aside0.mk (show Kd.V k29 29 _ w.heap.size _ _ ((rd_T57 t153 x8_2).f0) from Kd.V_mk ul158_0 ge158_0)
   clear hva_ hvn_ hvc_ ge158_0 ul158_0
   have hv158_2 := hcc158 2 _ rfl
   rw [add_field _ _ 2 (by omega)] at hv158_2
   replace hv158_2 := Option.some.inj (hv158_2.symm.trans hx158_2)
   injection hv158_2 with hva_ hvn_ hvc_
   rw [hva_] at ge158_2
   rw [hvc_] at ul158_2
   have HL158_2 := Aside0.mk (show Kd.V k69 69 _ w.heap.size _ _ ((rd_T57 t153 x8_2).f1.f1) from Kd.V_mk ul158_2 ge158_2)
   clear hva_ hvn_ hvc_ ge158_2 ul158_2
   have hv158_6 := hcc158 6 _ rfl
   rw [add_field _ _ 6 (by omega)] at hv158_6
   replace hv158_6 := Option.some.inj (hv158_6.symm.trans hx158_6)
   injection hv158_6 with hva_ hvn_ hvc_
   rw [hva_] at ge158_6
   rw [hvc_] at ul158_6
   have HL158_6 := Aside0.mk (show Kd.V (Kd.int .u32) 22 _ w.heap.size _ _ ((rd_T57 t153 x8_2).f1.f5) from Kd.V_mk ul158_6 ge158_6)
   clear hva_ hvn_ hvc_ ge158_6 ul158_6
   have hv158_7 := hcc158 7 _ rfl
   rw [add_field _ _ 7 (by omega)] at hv158_7
   replace hv158_7 := Option.some.inj (hv158_7.symm.trans hx158_7)
   injection hv158_7 with hva_ hvn_ hvc_
   rw [hva_] at ge158_7
   rw [hvc_] at ul158_7
   have HL158_7 := Aside0.mk (show Kd.V k73 73 _ w.heap.size _ _ ((rd_T57 t153 x8_2).f1.f6) from Kd.V_mk ul158_7 ge158_7)
   clear hva_ hvn_ hvc_ ge158_7 ul158_7
   have hv158_8 := hcc158 8 _ rfl
   rw [add_field _ _ 8 (by omega)] at hv158_8
   replace hv158_8 := Option.some.inj (hv158_8.symm.trans hx158_8)
   injection hv158_8 with hva_ hvn_ hvc_
   rw [hva_] at ge158_8
   rw [hvc_] at ul158_8
   have HL158_8 := Aside0.mk (show Kd.V k29 29 _ w.heap.size _ _ ((rd_T57 t153 x8_2).f2) from Kd.V_mk ul158_8 ge158_8)
   clear hva_ hvn_ hvc_ ge158_8 ul158_8
   clear hcc158 hce158
   have HR158_0 := Aside0.mk hi158_0
   have HC158_0 := Aside0.mk hl158_0
   clear hi158_0 hl158_0
   have HR158_2 := Aside0.mk hi158_2
   have HC158_2 := Aside0.mk hl158_2
   clear hi158_2 hl158_2
   have HR158_6 := Aside0.mk hi158_6
   have HC158_6 := Aside0.mk hl158_6
   clear hi158_6 hl158_6
   have HR158_7 := Aside0.mk hi158_7
   have HC158_7 := Aside0.mk hl158_7
   clear hi158_7 hl158_7
   have HR158_8 := Aside0.mk hi158_8
   have HC158_8 := Aside0.mk hl158_8
   clear hi158_8 hl158_8
   replace p158 := eq_true p158
   replace q158 := eq_true q158
   go_wp2
   go_roundg k4
   case measure => have := HK1.out; have := HK2.out; have := HJ8.out; have := HK4.out; omega
   case rel => exact ⟨(x7_4), (wrap64 (x8_2 + 1)), (by first | rfl | (simp; done) | (simp [*]; done)), (by first | rfl | (simp; done) | (simp [*]; done)), H', ⟨by have := HK1.out; have := HK2.out; have := HJ8.out; have := HK4.out; omega⟩, ⟨by (with_reducible repeat (first | apply Kd.N_alloc | apply Kd.N_drewN | apply Kd.N_drew)); exact HO_6.out⟩, ⟨by repeat (first | (with_reducible first | exact HB.out | apply below_alloc | apply pw_below_drewN | apply below_drew1) | exact HB.out)⟩⟩
  rw [if_pos c17] at H
  have c17b0 : decide (x9_4 < (((rd_T57 t153 x8_2).f0).length : Int)) = true := decide_eq_true c17
  clear c17
  by_cases c18 : 0 ≤ x9_4
  rotate_left
  ·rw [if_neg c18] at H
   exact absurd H (by simp)
  rw [if_pos c18] at H
  have c18b0 : decide (0 ≤ x9_4) = true := decide_eq_true c18
  clear c18
  by_cases c19 : ((rd_T29 ((rd_T57 t153 x8_2).f0) x9_4).f0) = ((((x7_4) % 4294967296) * 256) % 4294967296)
  rotate_left
  ·rw [if_neg c19] at H
   have c19b0 : (((rd_T29 ((rd_T57 t153 x8_2).f0) x9_4).f0) == ((((x7_4) % 4294967296) * 256) % 4294967296)) = false := beq_eq_false_iff_ne.mpr c19
   have c19b1 : (((rd_T29 ((rd_T57 t153 x8_2).f0) x9_4).f0) != ((((x7_4) % 4294967296) * 256) % 4294967296)) = true := bne_iff_ne.mpr c19
   obtain rfl := Option.some.inj H
   have p158 : 0 ≤ (x8_2 : Int) := of_decide_eq_true (by first | (with_reducible assumption) | assumption)
   have q158 : x8_2 < (t153.length : Int) := of_decide_eq_true (by first | (with_reducible assumption) | assumption)
   obtain ⟨ad158, A158_0, c158_0, A158_2, c158_2, A158_6, c158_6, A158_7, c158_7, A158_8, c158_8, e158, hx158_0, hx158_1, hx158_2, hx158_3, hx158_4, hx158_5, hx158_6, hx158_7, hx158_8, hl158_0, hi158_0, hl158_2, hi158_2, hl158_6, hi158_6, hl158_7, hi158_7, hl158_8, hi158_8⟩ := at_T57 (Kd.N_reads' HO_6.out).2.2 x8_2 p158 q158
   cases e158
   obtain ⟨ce158, hce158, hMe158, hcc158⟩ := Kd.N_get HO_6.out z57 x8_2 p158 (by first | exact q158 | exact of_decide_eq_true (by first | (with_reducible assumption) | assumption) | (have e_ := (Kd.N_reads' HO_6.out).1; omega))
   obtain ⟨ua158_0, uc158_0, ua158_2, uc158_2, ua158_6, uc158_6, ua158_7, uc158_7, ua158_8, uc158_8, rfl, ul158_0, ge158_0, ul158_2, ge158_2, ul158_6, ge158_6, ul158_7, ge158_7, ul158_8, ge158_8⟩ := k57_openF hMe158
   have hv158_0 := hcc158 0 _ rfl
   rw [Nat.add_zero] at hv158_0
   replace hv158_0 := Option.some.inj (hv158_0.symm.trans hx158_0)
   injection hv158_0 with hva_ hvn_ hvc_
   rw [hva_] at ge158_0
   rw [hvc_] at ul158_0
   have HL158_0 := Aside0.mk (show Kd.V k29 29 _ w.heap.size _ _ ((rd_T57 t153 x8_2).f0) from Kd.V_mk ul158_0 ge158_0)
   clear hva_ hvn_ hvc_ ge158_0 ul158_0
   have hv158_2 := hcc158 2 _ rfl
   rw [add_field _ _ 2 (by omega)] at hv158_2
   replace hv158_2 := Option.some.inj (hv158_2.symm.trans hx158_2)
   injection hv158_2 with hva_ hvn_ hvc_
   rw [hva_] at ge158_2
   rw [hvc_] at ul158_2
   have HL158_2 := Aside0.mk (show Kd.V k69 69 _ w.heap.size _ _ ((rd_T57 t153 x8_2).f1.f1) from Kd.V_mk ul158_2 ge158_2)
   clear hva_ hvn_ hvc_ ge158_2 ul158_2
   have hv158_6 := hcc158 6 _ rfl
   rw [add_field _ _ 6 (by omega)] at hv158_6
   replace hv158_6 := Option.some.inj (hv158_6.symm.trans hx158_6)
   injection hv158_6 with hva_ hvn_ hvc_
   rw [hva_] at ge158_6
   rw [hvc_] at ul158_6
   have HL158_6 := Aside0.mk (show Kd.V (Kd.int .u32) 22 _ w.heap.size _ _ ((rd_T57 t153 x8_2).f1.f5) from Kd.V_mk ul158_6 ge158_6)
   clear hva_ hvn_ hvc_ ge158_6 ul158_6
   have hv158_7 := hcc158 7 _ rfl
   rw [add_field _ _ 7 (by omega)] at hv158_7
   replace hv158_7 := Option.some.inj (hv158_7.symm.trans hx158_7)
   injection hv158_7 with hva_ hvn_ hvc_
   rw [hva_] at ge158_7
   rw [hvc_] at ul158_7
   have HL158_7 := Aside0.mk (show Kd.V k73 73 _ w.heap.size _ _ ((rd_T57 t153 x8_2).f1.f6) from Kd.V_mk ul158_7 ge158_7)
   clear hva_ hvn_ hvc_ ge158_7 ul158_7
   have hv158_8 := hcc158 8 _ rfl
   rw [add_field _ _ 8 (by omega)] at hv158_8
   replace hv158_8 := Option.some.inj (hv158_8.symm.trans hx158_8)
   injection hv158_8 with hva_ hvn_ hvc_
   rw [hva_] at ge158_8
   rw [hvc_] at ul158_8
   have HL158_8 := Aside0.mk (show Kd.V k29 29 _ w.heap.size _ _ ((rd_T57 t153 x8_2).f2) from Kd.V_mk ul158_8 ge158_8)
   clear hva_ hvn_ hvc_ ge158_8 ul158_8
   clear hcc158 hce158
   have HR158_0 := Aside0.mk hi158_0
   have HC158_0 := Aside0.mk hl158_0
   clear hi158_0 hl158_0
   have HR158_2 := Aside0.mk hi158_2
   have HC158_2 := Aside0.mk hl158_2
   clear hi158_2 hl158_2
   have HR158_6 := Aside0.mk hi158_6
   have HC158_6 := Aside0.mk hl158_6
   clear hi158_6 hl158_6
   have HR158_7 := Aside0.mk hi158_7
   have HC158_7 := Aside0.mk hl158_7
   clear hi158_7 hl158_7
   have HR158_8 := Aside0.mk hi158_8
   have HC158_8 := Aside0.mk hl158_8
   clear hi158_8 hl158_8
   replace p158 := eq_true p158
   replace q158 := eq_true q158
   have p159 : 0 ≤ (x8_2 : Int) := of_decide_eq_true (by first | (with_reducible assumption) | assumption)
   have q159 : x8_2 < (t153.length : Int) := of_decide_eq_true (by first | (with_reducible assumption) | assumption)
   obtain ⟨ad159, A159_0, c159_0, A159_2, c159_2, A159_6, c159_6, A159_7, c159_7, A159_8, c159_8, e159, hx159_0, hx159_1, hx159_2, hx159_3, hx159_4, hx159_5, hx159_6, hx159_7, hx159_8, hl159_0, hi159_0, hl159_2, hi159_2, hl159_6, hi159_6, hl159_7, hi159_7, hl159_8, hi159_8⟩ := at_T57 (Kd.N_reads' HO_6.out).2.2 x8_2 p159 q159
   obtain rfl : ad158 = ad159 := (by injection e159)
   obtain ⟨ce159, hce159, hMe159, hcc159⟩ := Kd.N_get HO_6.out z57 x8_2 p159 (by first | exact q159 | exact of_decide_eq_true (by first | (with_reducible assumption) | assumption) | (have e_ := (Kd.N_reads' HO_6.out).1; omega))
   obtain ⟨ua159_0, uc159_0, ua159_2, uc159_2, ua159_6, uc159_6, ua159_7, uc159_7, ua159_8, uc159_8, rfl, ul159_0, ge159_0, ul159_2, ge159_2, ul159_6, ge159_6, ul159_7, ge159_7, ul159_8, ge159_8⟩ := k57_openF hMe159
   have hv159_0 := hcc159 0 _ rfl
   rw [Nat.add_zero] at hv159_0
   replace hv159_0 := Option.some.inj (hv159_0.symm.trans hx159_0)
   injection hv159_0 with hva_ hvn_ hvc_
   rw [hva_] at ge159_0
   rw [hvc_] at ul159_0
   have HL159_0 := Aside0.mk (show Kd.V k29 29 _ w.heap.size _ _ ((rd_T57 t153 x8_2).f0) from Kd.V_mk ul159_0 ge159_0)
   clear hva_ hvn_ hvc_ ge159_0 ul159_0
   have hv159_2 := hcc159 2 _ rfl
   rw [add_field _ _ 2 (by omega)] at hv159_2
   replace hv159_2 := Option.some.inj (hv159_2.symm.trans hx159_2)
   injection hv159_2 with hva_ hvn_ hvc_
   rw [hva_] at ge159_2
   rw [hvc_] at ul159_2
   have HL159_2 := Aside0.mk (show Kd.V k69 69 _ w.heap.size _ _ ((rd_T57 t153 x8_2).f1.f1) from Kd.V_mk ul159_2 ge159_2)
   clear hva_ hvn_ hvc_ ge159_2 ul159_2
   have hv159_6 := hcc159 6 _ rfl
   rw [add_field _ _ 6 (by omega)] at hv159_6
   replace hv159_6 := Option.some.inj (hv159_6.symm.trans hx159_6)
   injection hv159_6 with hva_ hvn_ hvc_
   rw [hva_] at ge159_6
   rw [hvc_] at ul159_6
   have HL159_6 := Aside0.mk (show Kd.V (Kd.int .u32) 22 _ w.heap.size _ _ ((rd_T57 t153 x8_2).f1.f5) from Kd.V_mk ul159_6 ge159_6)
   clear hva_ hvn_ hvc_ ge159_6 ul159_6
   have hv159_7 := hcc159 7 _ rfl
   rw [add_field _ _ 7 (by omega)] at hv159_7
   replace hv159_7 := Option.some.inj (hv159_7.symm.trans hx159_7)
   injection hv159_7 with hva_ hvn_ hvc_
   rw [hva_] at ge159_7
   rw [hvc_] at ul159_7
   have HL159_7 := Aside0.mk (show Kd.V k73 73 _ w.heap.size _ _ ((rd_T57 t153 x8_2).f1.f6) from Kd.V_mk ul159_7 ge159_7)
   clear hva_ hvn_ hvc_ ge159_7 ul159_7
   have hv159_8 := hcc159 8 _ rfl
   rw [add_field _ _ 8 (by omega)] at hv159_8
   replace hv159_8 := Option.some.inj (hv159_8.symm.trans hx159_8)
   injection hv159_8 with hva_ hvn_ hvc_
   rw [hva_] at ge159_8
   rw [hvc_] at ul159_8
   have HL159_8 := Aside0.mk (show Kd.V k29 29 _ w.heap.size _ _ ((rd_T57 t153 x8_2).f2) from Kd.V_mk ul159_8 ge159_8)
   clear hva_ hvn_ hvc_ ge159_8 ul159_8
   clear hcc159 hce159
   have HR159_0 := Aside0.mk hi159_0
   have HC159_0 := Aside0.mk hl159_0
   clear hi159_0 hl159_0
   have HR159_2 := Aside0.mk hi159_2
   have HC159_2 := Aside0.mk hl159_2
   clear hi159_2 hl159_2
   have HR159_6 := Aside0.mk hi159_6
   have HC159_6 := Aside0.mk hl159_6
   clear hi159_6 hl159_6
   have HR159_7 := Aside0.mk hi159_7
   have HC159_7 := Aside0.mk hl159_7
   clear hi159_7 hl159_7
   have HR159_8 := Aside0.mk hi159_8
   have HC159_8 := Aside0.mk hl159_8
   clear hi159_8 hl159_8
   replace p159 := eq_true p159
   replace q159 := eq_true q159
   have ea_ := Option.some.inj (hx158_0.symm.trans hx159_0)
   injection ea_ with ea_ en_ ec_
   subst ea_
   subst ec_
   clear en_
   have ea_ := Option.some.inj (hx158_2.symm.trans hx159_2)
   injection ea_ with ea_ en_ ec_
   subst ea_
   subst ec_
   clear en_
   have ea_ := Option.some.inj (hx158_6.symm.trans hx159_6)
   injection ea_ with ea_ en_ ec_
   subst ea_
   subst ec_
   clear en_
   have ea_ := Option.some.inj (hx158_7.symm.trans hx159_7)
   injection ea_ with ea_ en_ ec_
   subst ea_
   subst ec_
   clear en_
   have ea_ := Option.some.inj (hx158_8.symm.trans hx159_8)
   injection ea_ with ea_ en_ ec_
   subst ea_
   subst ec_
   clear en_
   have p160 : 0 ≤ (x9_4 : Int) := of_decide_eq_true (by first | (with_reducible assumption) | assumption)
   have q160 : x9_4 < (((rd_T57 t153 x8_2).f0).length : Int) := of_decide_eq_true (by first | (with_reducible assumption) | assumption)
   obtain ⟨ad160, e160, hx160_0, hx160_1⟩ := at_T29 (by repeat (first | (with_reducible exact HR159_0.out) | (with_reducible refine Kd.C_alloc ?_ _) | (with_reducible refine Kd.C_drewN ?_ _) | (with_reducible refine Kd.C_drew ?_) | exact HR159_0.out)) x9_4 p160 q160
   cases e160
   replace p160 := eq_true p160
   replace q160 := eq_true q160
   go_wp2
   go_ret
   exact ⟨by first | rfl | (simp [errW_none, errW_some] <;> rfl) | (simp [*, errW_none, errW_some] <;> rfl), by repeat (first | (with_reducible first | exact HB.out | apply below_alloc | apply pw_below_drewN | apply below_drew1) | exact HB.out)⟩
  rw [if_pos c19] at H
  have c19b0 : (((rd_T29 ((rd_T57 t153 x8_2).f0) x9_4).f0) == ((((x7_4) % 4294967296) * 256) % 4294967296)) = true := beq_iff_eq.mpr c19
  have c19b1 : (((rd_T29 ((rd_T57 t153 x8_2).f0) x9_4).f0) != ((((x7_4) % 4294967296) * 256) % 4294967296)) = false := bne_eq_false_iff_eq.mpr c19
  clear c19
  have H' := Aside0.mk H
  clear H
  have p158 : 0 ≤ (x8_2 : Int) := of_decide_eq_true (by first | (with_reducible assumption) | assumption)
  have q158 : x8_2 < (t153.length : Int) := of_decide_eq_true (by first | (with_reducible assumption) | assumption)
  obtain ⟨ad158, A158_0, c158_0, A158_2, c158_2, A158_6, c158_6, A158_7, c158_7, A158_8, c158_8, e158, hx158_0, hx158_1, hx158_2, hx158_3, hx158_4, hx158_5, hx158_6, hx158_7, hx158_8, hl158_0, hi158_0, hl158_2, hi158_2, hl158_6, hi158_6, hl158_7, hi158_7, hl158_8, hi158_8⟩ := at_T57 (Kd.N_reads' HO_6.out).2.2 x8_2 p158 q158
  cases e158
  obtain ⟨ce158, hce158, hMe158, hcc158⟩ := Kd.N_get HO_6.out z57 x8_2 p158 (by first | exact q158 | exact of_decide_eq_true (by first | (with_reducible assumption) | assumption) | (have e_ := (Kd.N_reads' HO_6.out).1; omega))
  obtain ⟨ua158_0, uc158_0, ua158_2, uc158_2, ua158_6, uc158_6, ua158_7, uc158_7, ua158_8, uc158_8, rfl, ul158_0, ge158_0, ul158_2, ge158_2, ul158_6, ge158_6, ul158_7, ge158_7, ul158_8, ge158_8⟩ := k57_openF hMe158
  have hv158_0 := hcc158 0 _ rfl
  rw [Nat.add_zero] at hv158_0
  replace hv158_0 := Option.some.inj (hv158_0.symm.trans hx158_0)
  injection hv158_0 with hva_ hvn_ hvc_
  rw [hva_] at ge158_0
  rw [hvc_] at ul158_0
  have HL158_0 := Aside0.mk (show Kd.V k29 29 _ w.heap.size _ _ ((rd_T57 t153 x8_2).f0) from Kd.V_mk ul158_0 ge158_0)
  clear hva_ hvn_ hvc_ ge158_0 ul158_0
  have hv158_2 := hcc158 2 _ rfl
  rw [add_field _ _ 2 (by omega)] at hv158_2
  replace hv158_2 := Option.some.inj (hv158_2.symm.trans hx158_2)
  injection hv158_2 with hva_ hvn_ hvc_
  rw [hva_] at ge158_2
  rw [hvc_] at ul158_2
  have HL158_2 := Aside0.mk (show Kd.V k69 69 _ w.heap.size _ _ ((rd_T57 t153 x8_2).f1.f1) from Kd.V_mk ul158_2 ge158_2)
  clear hva_ hvn_ hvc_ ge158_2 ul158_2
  have hv158_6 := hcc158 6 _ rfl
  rw [add_field _ _ 6 (by omega)] at hv158_6
  replace hv158_6 := Option.some.inj (hv158_6.symm.trans hx158_6)
  injection hv158_6 with hva_ hvn_ hvc_
  rw [hva_] at ge158_6
  rw [hvc_] at ul158_6
  have HL158_6 := Aside0.mk (show Kd.V (Kd.int .u32) 22 _ w.heap.size _ _ ((rd_T57 t153 x8_2).f1.f5) from Kd.V_mk ul158_6 ge158_6)
  clear hva_ hvn_ hvc_ ge158_6 ul158_6
  have hv158_7 := hcc158 7 _ rfl
  rw [add_field _ _ 7 (by omega)] at hv158_7
  replace hv158_7 := Option.some.inj (hv158_7.symm.trans hx158_7)
  injection hv158_7 with hva_ hvn_ hvc_
  rw [hva_] at ge158_7
  rw [hvc_] at ul158_7
  have HL158_7 := Aside0.mk (show Kd.V k73 73 _ w.heap.size _ _ ((rd_T57 t153 x8_2).f1.f6) from Kd.V_mk ul158_7 ge158_7)
  clear hva_ hvn_ hvc_ ge158_7 ul158_7
  have hv158_8 := hcc158 8 _ rfl
  rw [add_field _ _ 8 (by omega)] at hv158_8
  replace hv158_8 := Option.some.inj (hv158_8.symm.trans hx158_8)
  injection hv158_8 with hva_ hvn_ hvc_
  rw [hva_] at ge158_8
  rw [hvc_] at ul158_8
  have HL158_8 := Aside0.mk (show Kd.V k29 29 _ w.heap.size _ _ ((rd_T57 t153 x8_2).f2) from Kd.V_mk ul158_8 ge158_8)
  clear hva_ hvn_ hvc_ ge158_8 ul158_8
  clear hcc158 hce158
  have HR158_0 := Aside0.mk hi158_0
  have HC158_0 := Aside0.mk hl158_0
  clear hi158_0 hl158_0
  have HR158_2 := Aside0.mk hi158_2
  have HC158_2 := Aside0.mk hl158_2
  clear hi158_2 hl158_2
  have HR158_6 := Aside0.mk hi158_6
  have HC158_6 := Aside0.mk hl158_6
  clear hi158_6 hl158_6
  have HR158_7 := Aside0.mk hi158_7
  have HC158_7 := Aside0.mk hl158_7
  clear hi158_7 hl158_7
  have HR158_8 := Aside0.mk hi158_8
  have HC158_8 := Aside0.mk hl158_8
  clear hi158_8 hl158_8
  replace p158 := eq_true p158
  replace q158 := eq_true q158
  have p159 : 0 ≤ (x8_2 : Int) := of_decide_eq_true (by first | (with_reducible assumption) | assumption)
  have q159 : x8_2 < (t153.length : Int) := of_decide_eq_true (by first | (with_reducible assumption) | assumption)
  obtain ⟨ad159, A159_0, c159_0, A159_2, c159_2, A159_6, c159_6, A159_7, c159_7, A159_8, c159_8, e159, hx159_0, hx159_1, hx159_2, hx159_3, hx159_4, hx159_5, hx159_6, hx159_7, hx159_8, hl159_0, hi159_0, hl159_2, hi159_2, hl159_6, hi159_6, hl159_7, hi159_7, hl159_8, hi159_8⟩ := at_T57 (Kd.N_reads' HO_6.out).2.2 x8_2 p159 q159
  obtain rfl : ad158 = ad159 := (by injection e159)
  obtain ⟨ce159, hce159, hMe159, hcc159⟩ := Kd.N_get HO_6.out z57 x8_2 p159 (by first | exact q159 | exact of_decide_eq_true (by first | (with_reducible assumption) | assumption) | (have e_ := (Kd.N_reads' HO_6.out).1; omega))
  obtain ⟨ua159_0, uc159_0, ua159_2, uc159_2, ua159_6, uc159_6, ua159_7, uc159_7, ua159_8, uc159_8, rfl, ul159_0, ge159_0, ul159_2, ge159_2, ul159_6, ge159_6, ul159_7, ge159_7, ul159_8, ge159_8⟩ := k57_openF hMe159
  have hv159_0 := hcc159 0 _ rfl
  rw [Nat.add_zero] at hv159_0
  replace hv159_0 := Option.some.inj (hv159_0.symm.trans hx159_0)
  injection hv159_0 with hva_ hvn_ hvc_
  rw [hva_] at ge159_0
  rw [hvc_] at ul159_0
  have HL159_0 := Aside0.mk (show Kd.V k29 29 _ w.heap.size _ _ ((rd_T57 t153 x8_2).f0) from Kd.V_mk ul159_0 ge159_0)
  clear hva_ hvn_ hvc_ ge159_0 ul159_0
  have hv159_2 := hcc159 2 _ rfl
  rw [add_field _ _ 2 (by omega)] at hv159_2
  replace hv159_2 := Option.some.inj (hv159_2.symm.trans hx159_2)
  injection hv159_2 with hva_ hvn_ hvc_
  rw [hva_] at ge159_2
  rw [hvc_] at ul159_2
  have HL159_2 := Aside0.mk (show Kd.V k69 69 _ w.heap.size _ _ ((rd_T57 t153 x8_2).f1.f1) from Kd.V_mk ul159_2 ge159_2)
  clear hva_ hvn_ hvc_ ge159_2 ul159_2
  have hv159_6 := hcc159 6 _ rfl
  rw [add_field _ _ 6 (by omega)] at hv159_6
  replace hv159_6 := Option.some.inj (hv159_6.symm.trans hx159_6)
  injection hv159_6 with hva_ hvn_ hvc_
  rw [hva_] at ge159_6
  rw [hvc_] at ul159_6
  have HL159_6 := Aside0.mk (show Kd.V (Kd.int .u32) 22 _ w.heap.size _ _ ((rd_T57 t153 x8_2).f1.f5) from Kd.V_mk ul159_6 ge159_6)
  clear hva_ hvn_ hvc_ ge159_6 ul159_6
  have hv159_7 := hcc159 7 _ rfl
  rw [add_field _ _ 7 (by omega)] at hv159_7
  replace hv159_7 := Option.some.inj (hv159_7.symm.trans hx159_7)
  injection hv159_7 with hva_ hvn_ hvc_
  rw [hva_] at ge159_7
  rw [hvc_] at ul159_7
  have HL159_7 := Aside0.mk (show Kd.V k73 73 _ w.heap.size _ _ ((rd_T57 t153 x8_2).f1.f6) from Kd.V_mk ul159_7 ge159_7)
  clear hva_ hvn_ hvc_ ge159_7 ul159_7
  have hv159_8 := hcc159 8 _ rfl
  rw [add_field _ _ 8 (by omega)] at hv159_8
  replace hv159_8 := Option.some.inj (hv159_8.symm.trans hx159_8)
  injection hv159_8 with hva_ hvn_ hvc_
  rw [hva_] at ge159_8
  rw [hvc_] at ul159_8
  have HL159_8 := Aside0.mk (show Kd.V k29 29 _ w.heap.size _ _ ((rd_T57 t153 x8_2).f2) from Kd.V_mk ul159_8 ge159_8)
  clear hva_ hvn_ hvc_ ge159_8 ul159_8
  clear hcc159 hce159
  have HR159_0 := Aside0.mk hi159_0
  have HC159_0 := Aside0.mk hl159_0
  clear hi159_0 hl159_0
  have HR159_2 := Aside0.mk hi159_2
  have HC159_2 := Aside0.mk hl159_2
  clear hi159_2 hl159_2
  have HR159_6 := Aside0.mk hi159_6
  have HC159_6 := Aside0.mk hl159_6
  clear hi159_6 hl159_6
  have HR159_7 := Aside0.mk hi159_7
  have HC159_7 := Aside0.mk hl159_7
  clear hi159_7 hl159_7
  have HR159_8 := Aside0.mk hi159_8
  have HC159_8 := Aside0.mk hl159_8
  clear hi159_8 hl159_8
  replace p159 := eq_true p159
  replace q159 := eq_true q159
  have ea_ := Option.some.inj (hx158_0.symm.trans hx159_0)
  injection ea_ with ea_ en_ ec_
  subst ea_
  subst ec_
  clear en_
  have ea_ := Option.some.inj (hx158_2.symm.trans hx159_2)
  injection ea_ with ea_ en_ ec_
  subst ea_
  subst ec_
  clear en_
  have ea_ := Option.some.inj (hx158_6.symm.trans hx159_6)
  injection ea_ with ea_ en_ ec_
  subst ea_
  subst ec_
  clear en_
  have ea_ := Option.some.inj (hx158_7.symm.trans hx159_7)
  injection ea_ with ea_ en_ ec_
  subst ea_
  subst ec_
  clear en_
  have ea_ := Option.some.inj (hx158_8.symm.trans hx159_8)
  injection ea_ with ea_ en_ ec_
  subst ea_
  subst ec_
  clear en_
  have p160 : 0 ≤ (x9_4 : Int) := of_decide_eq_true (by first | (with_reducible assumption) | assumption)
  have q160 : x9_4 < (((rd_T57 t153 x8_2).f0).length : Int) := of_decide_eq_true (by first | (with_reducible assumption) | assumption)
  obtain ⟨ad160, e160, hx160_0, hx160_1⟩ := at_T29 (by repeat (first | (with_reducible exact HR159_0.out) | (with_reducible refine Kd.C_alloc ?_ _) | (with_reducible refine Kd.C_drewN ?_ _) | (with_reducible refine Kd.C_drew ?_) | exact HR159_0.out)) x9_4 p160 q160
  cases e160
  replace p160 := eq_true p160
  replace q160 := eq_true q160
  go_wp2
  go_roundg k4
  case measure => have := HK1.out; have := HK2.out; have := HJ8.out; have := HK4.out; omega
  case rel => exact ⟨(wrap64 (x7_4 + 1)), (wrap64 (x9_4 + 1)), (by first | rfl | (simp; done) | (simp [*]; done)), (by first | rfl | (simp; done) | (simp [*]; done)), H', ⟨by have := HK1.out; have := HK2.out; have := HJ8.out; have := HK4.out; omega⟩, ⟨by (with_reducible repeat (first | apply Kd.N_alloc | apply Kd.N_drewN | apply Kd.N_drew)); exact HO_6.out⟩, ⟨by repeat (first | (with_reducible first | exact HB.out | apply below_alloc | apply pw_below_drewN | apply below_drew1) | exact HB.out)⟩⟩
/-- THE ONE PURE STATEMENT of interregnumlaw16_ExportGone: yours. -/
def interregnumlaw16_ExportGone.Pure : Prop := ∀ (a0 : Int), (Lit.int .u16 a0).wf = true → ∃ k, interregnumlaw16_ExportGone.f k a0 = some true
theorem interregnumlaw16_ExportGone.walk (P : interregnumlaw16_ExportGone.Pure) (a0 : Int) (w : World) (w0 : (Lit.int .u16 a0).wf = true) :
    Calls Try.prog 6 #[.int .u16 a0] w fun e w' => e = .returned (.bool true) ∧ Below w.heap.size w w' := by
  obtain ⟨k, h⟩ := P a0 w0
  refine (interregnumlaw16_ExportGone.calls k a0 true w h).mono ?_
  rintro e w' ⟨rfl, hd⟩
  exact ⟨rfl, hd⟩

end Go.Proofs.Ytjdebhkdbdbepaa.PExportGone
