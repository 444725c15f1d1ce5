-- Lean text by a program of this repo (wip/tools/printx.py), out of Lean's own print of the translation
import Derived.Test.YtjdebhkdbdbepaaPExportTellsx0
namespace Go.Proofs.Ytjdebhkdbdbepaa.PExportTells
open Go.RowKit Go.Proofs.YtjdebhkdbdbepaaW.PrintWords Go.Proofs.YtjdebhkdbdbepaaW.PrintLast Go.Proofs.YtjdebhkdbdbepaaW.PrintMore
attribute [local go_sem] max2_int min2_int max_two min_two max_three min_three max_four min_four   -- for this text's walks alone
set_option linter.unusedVariables false
set_option linter.unusedSimpArgs false

/-! ### interregnumref05_Prepend: function 27 -/
def interregnumref05_Prepend.j0 : Nat → List (S69) → Int → Bool → Option ((List (S69)))
  | 0, _, _, _ => none
  | k + 1, x0, x1, x22 => if x22 = true then ((some (([x1] : List Int) : List Int)).bind fun y146 => (if 0 < (x0.length : Int) then (if y146.length + ((rd_T69 x0 0).f1).length < 17592186044416 then ((some (([(⟨false, (y146 ++ ((rd_T69 x0 0).f1))⟩ : S69)] : List (S69)) : List (S69))).bind fun y153 => (if 1 ≤ (x0.length : Int) then ((some (x0.drop 1 : List (S69))).bind fun y156 => (if y153.length + y156.length < 4398046511104 then (some (y153 ++ y156)) else (none))) else (none))) else (none)) else (none))) else ((some (([(⟨false, (([x1] : List Int))⟩ : S69)] : List (S69)) : List (S69))).bind fun y167 => (if y167.length + x0.length < 4398046511104 then (some (y167 ++ x0)) else (none)))
def interregnumref05_Prepend.f (k : Nat) (l0 : List (S69)) (a1 : Int) : Option ((List (S69))) := if (l0.length : Int) > 0 then (if 0 < (l0.length : Int) then (if ((rd_T69 l0 0).f0 = true) then (interregnumref05_Prepend.j0 k l0 a1 false) else (interregnumref05_Prepend.j0 k l0 a1 (decide ((((rd_T69 l0 0).f1).length : Int) ≤ 254)))) else (none)) else (interregnumref05_Prepend.j0 k l0 a1 false)
theorem interregnumref05_Prepend.mono_l : ∀ k, (∀ y0 y1 y2, LeO (interregnumref05_Prepend.j0 k y0 y1 y2) (interregnumref05_Prepend.j0 (k + 1) y0 y1 y2))
  | 0 => fun _ _ _ r h => by simp [interregnumref05_Prepend.j0] at h
  | k + 1 => by
    have ih0 := interregnumref05_Prepend.mono_l k
    · intro y0 y1 y2
      unfold interregnumref05_Prepend.j0
      repeat' first
      | (with_reducible exact ih0 _ _ _)
      | (with_reducible exact LeO.refl _)
      | (with_reducible exact LeO.none _)
      | (with_reducible refine LeO.ite ?_ ?_)
      | (with_reducible refine LeO.bind ?_ (fun _ => ?_))
      | exact ih0 _ _ _
      | exact LeO.none _
      | refine LeO.ite ?_ ?_
      | refine LeO.bind ?_ (fun _ => ?_)
theorem interregnumref05_Prepend.mono : ∀ a0 a1 k, LeO (interregnumref05_Prepend.f k a0 a1) (interregnumref05_Prepend.f (k + 1) a0 a1) := by
  intro a0 a1 k
  have ih0 := interregnumref05_Prepend.mono_l k
  unfold interregnumref05_Prepend.f
  repeat' first
      | (with_reducible exact ih0 _ _ _)
      | (with_reducible exact LeO.refl _)
      | (with_reducible exact LeO.none _)
      | (with_reducible refine LeO.ite ?_ ?_)
      | (with_reducible refine LeO.bind ?_ (fun _ => ?_))
      | exact ih0 _ _ _
      | exact LeO.none _
      | refine LeO.ite ?_ ?_
      | refine LeO.bind ?_ (fun _ => ?_)
def interregnumref05_Prepend.T2 : Bool × List (List Nat × List Nat) := (true, [([], []), ([0], [0]), ([], []), ([2], [2]), ([3], [3]), ([4], [4]), ([1, 5], [1, 5]), ([6], [6]), ([7], [7]), ([], []), ([9], [9]), ([8, 10, 6], [8, 10]), ([11, 11, 0, 1, 2, 3, 4, 5, 6, 7, 8, 9, 10, 11], [11])])
def interregnumref05_Prepend.B2 : List Nat := [0, 1, 0, 4, 12, 28, 63, 127, 255, 0, 512, 2047, 4095]
theorem interregnumref05_Prepend.tab2 : rtab .any (opsOf Try.f27 2) = interregnumref05_Prepend.T2 := by kernel_rfl
theorem interregnumref05_Prepend.bits2 : waitsOk interregnumref05_Prepend.T2.2 interregnumref05_Prepend.B2 = true := by kernel_rfl
set_option maxHeartbeats 8000000 in
set_option maxRecDepth 100000 in
theorem interregnumref05_Prepend.calls (k : Nat) (P0_ : Nat → Prop) (A0 : Option Addr) (c0 : Nat) (l0 : List (S69)) (a1 : Int) (r : List (S69)) (w : World) (hs0 : Kd.V k69 69 w w.heap.size (fun k_ => P0_ k_) (.slice A0 l0.length c0) l0) (h : interregnumref05_Prepend.f k l0 a1 = some r) :
    Calls Try.prog 27 #[.slice A0 l0.length c0, .int .i64 a1] w fun e w' => ∃ v0_ : Value, e = .returned (v0_) ∧ Kd.N k69 69 w' w.heap.size (fun k_ => (P0_ k_ ∨ w.heap.size ≤ k_)) v0_ r ∧ Below w.heap.size w w' := by
 have hu69 := Try.underlying69
 have HO0 := Aside0.mk (show Kd.V k69 69 w w.heap.size (fun k_ => (P0_ k_ ∨ w.heap.size ≤ k_)) (.slice A0 l0.length c0) l0 from Kd.V_mono hs0 (fun k_ hk => .inl hk))
 have HB := Aside0.mk (Below.refl w.heap.size w)
 have H : (if (l0.length : Int) > 0 then (if 0 < (l0.length : Int) then (if ((rd_T69 l0 0).f0 = true) then (interregnumref05_Prepend.j0 k l0 a1 false) else (interregnumref05_Prepend.j0 k l0 a1 (decide ((((rd_T69 l0 0).f1).length : Int) ≤ 254)))) else (none)) else (interregnumref05_Prepend.j0 k l0 a1 false)) = some r := h
 clear h
 have HC3 := Aside0.mk H
 clear H
 go_enter Try.func27, Try.ntmps27
 go_upto_region 1 with (fail)
 go_cut [22] (fun v22 wc => ∃ (kq : Nat) (x22_2 : Bool), v22 = .bool x22_2 ∧ Aside0 (interregnumref05_Prepend.j0 kq l0 a1 x22_2 = some r) ∧ Aside0 (kq ≤ k) ∧ Aside0 (Kd.V k69 69 wc w.heap.size (fun k_ => (P0_ k_ ∨ w.heap.size ≤ k_)) (.slice A0 l0.length c0) l0) ∧ Aside0 (Below w.heap.size w wc))
 case first =>
  have H := HC3.out
  clear HC3
  by_cases c4 : (l0.length : Int) > 0
  rotate_left
  ·rw [if_neg c4] at H
   have c4b0 : decide (0 < (l0.length : Int)) = false := decide_eq_false c4
   have c4b1 : decide (0 < l0.length) = false := decide_eq_false (by omega)
   clear c4
   (first | rw [c4b0] | (simp only [i64_w, i32_w]; rw [c4b0]) | skip)
   have H' := Aside0.mk H
   clear H
   go_wp2
   go_meet
   case rel => exact ⟨_, (false), (by first | rfl | (simp; done) | (simp [*]; done)), H', ⟨by first | omega | exact Nat.le_refl _⟩, ⟨by (with_reducible repeat (first | apply Kd.V_alloc | apply Kd.V_drewN | apply Kd.V_drew)); exact HO0.out⟩, ⟨by repeat (first | (with_reducible first | exact HB.out | apply below_alloc | apply pw_below_drewN | apply below_drew1) | exact HB.out)⟩⟩
  rw [if_pos c4] at H
  have c4b0 : decide (0 < (l0.length : Int)) = true := decide_eq_true c4
  have c4b1 : decide (0 < l0.length) = true := decide_eq_true (by omega)
  clear c4
  (first | rw [c4b0] | (simp only [i64_w, i32_w]; rw [c4b0]) | skip)
  by_cases c5 : 0 < (l0.length : Int)
  rotate_left
  ·rw [if_neg c5] at H
   exact absurd H (by simp)
  rw [if_pos c5] at H
  have c5b0 : decide (0 < (l0.length : Int)) = true := decide_eq_true c5
  have c5b1 : decide (0 < l0.length) = true := decide_eq_true (by omega)
  clear c5
  obtain ⟨bq6, hbq6⟩ : ∃ b_ : Bool, b_ = ((rd_T69 l0 0).f0) := ⟨_, rfl⟩
  replace H : (if (bq6 = true) then (interregnumref05_Prepend.j0 k l0 a1 false) else (interregnumref05_Prepend.j0 k l0 a1 (decide ((((rd_T69 l0 0).f1).length : Int) ≤ 254)))) = some r := by rw [← hbq6] at H; exact H
  have Nbq6 := Aside0.mk hbq6
  clear hbq6
  by_cases c7 : (bq6 = true)
  ·subst c7
   have H1 : (interregnumref05_Prepend.j0 k l0 a1 false) = some r := by rw [if_pos rfl] at H; exact H
   clear H
   have H := H1
   clear H1
   have H' := Aside0.mk H
   clear H
   have p144 : 0 ≤ (0 : Int) := (by omega)
   have q144 : 0 < (l0.length : Int) := of_decide_eq_true (by first | (with_reducible assumption) | assumption)
   obtain ⟨ad144, A144_1, c144_1, e144, hx144_0, hx144_1, hl144_1, hi144_1⟩ := at_T69 (Kd.V_reads' HO0.out).2.2 0 p144 q144
   (try rw [← Nbq6.out] at hx144_0)
   cases e144
   obtain ⟨ce144, hce144, hMe144, hcc144⟩ := Kd.V_get HO0.out z69 0 p144 (by first | exact q144 | exact of_decide_eq_true (by first | (with_reducible assumption) | assumption) | (have e_ := (Kd.V_reads' HO0.out).1; omega))
   obtain ⟨ua144_1, uc144_1, rfl, ul144_1, ge144_1⟩ := k69_openF hMe144
   have hv144_1 := hcc144 1 _ rfl
   rw [add_field _ _ 1 (by omega)] at hv144_1
   replace hv144_1 := Option.some.inj (hv144_1.symm.trans hx144_1)
   injection hv144_1 with hva_ hvn_ hvc_
   rw [hva_] at ge144_1
   rw [hvc_] at ul144_1
   have HL144_1 := Aside0.mk (show Kd.V (Kd.int .i64) 3 _ w.heap.size _ _ ((rd_T69 l0 0).f1) from Kd.V_mk ul144_1 ge144_1)
   clear hva_ hvn_ hvc_ ge144_1 ul144_1
   clear hcc144 hce144
   have qi144 : (0 < l0.length) = True := eq_true (by omega)
   (try rw [show ((0 : Int)).toNat = 0 from rfl] at hx144_0)
   (try rw [show 0 * 2 = 0 from rfl] at hx144_0)
   (try rw [Addr.add_zero'] at hx144_0)
   (try rw [show ((0 : Int)).toNat = 0 from rfl] at hx144_1)
   (try rw [show 0 * 2 = 0 from rfl] at hx144_1)
   (try rw [Addr.add_zero'] at hx144_1)
   have HR144_1 := Aside0.mk hi144_1
   have HC144_1 := Aside0.mk hl144_1
   clear hi144_1 hl144_1
   replace p144 := eq_true p144
   replace q144 := eq_true q144
   go_wp2
   go_meet
   case rel => first | exact ⟨_, (false), (by first | rfl | (simp; done) | (simp [*]; done)), H', ⟨by first | omega | exact Nat.le_refl _⟩, ⟨by (with_reducible repeat (first | apply Kd.V_alloc | apply Kd.V_drewN | apply Kd.V_drew)); exact HO0.out⟩, ⟨by repeat (first | (with_reducible first | exact HB.out | apply below_alloc | apply pw_below_drewN | apply below_drew1) | exact HB.out)⟩⟩ | ((try rw [← Nbq6.out]); exact ⟨_, (false), (by first | rfl | (simp; done) | (simp [*]; done)), H', ⟨by first | omega | exact Nat.le_refl _⟩, ⟨by (with_reducible repeat (first | apply Kd.V_alloc | apply Kd.V_drewN | apply Kd.V_drew)); exact HO0.out⟩, ⟨by repeat (first | (with_reducible first | exact HB.out | apply below_alloc | apply pw_below_drewN | apply below_drew1) | exact HB.out)⟩⟩)
  replace c7 := Bool.eq_false_iff.mpr c7
  subst c7
  have H1 : (interregnumref05_Prepend.j0 k l0 a1 (decide ((((rd_T69 l0 0).f1).length : Int) ≤ 254))) = some r := by rw [if_neg (show ¬ (false = true) by decide)] at H; exact H
  clear H
  have H := H1
  clear H1
  have H' := Aside0.mk H
  clear H
  have p144 : 0 ≤ (0 : Int) := (by omega)
  have q144 : 0 < (l0.length : Int) := of_decide_eq_true (by first | (with_reducible assumption) | assumption)
  obtain ⟨ad144, A144_1, c144_1, e144, hx144_0, hx144_1, hl144_1, hi144_1⟩ := at_T69 (Kd.V_reads' HO0.out).2.2 0 p144 q144
  (try rw [← Nbq6.out] at hx144_0)
  cases e144
  obtain ⟨ce144, hce144, hMe144, hcc144⟩ := Kd.V_get HO0.out z69 0 p144 (by first | exact q144 | exact of_decide_eq_true (by first | (with_reducible assumption) | assumption) | (have e_ := (Kd.V_reads' HO0.out).1; omega))
  obtain ⟨ua144_1, uc144_1, rfl, ul144_1, ge144_1⟩ := k69_openF hMe144
  have hv144_1 := hcc144 1 _ rfl
  rw [add_field _ _ 1 (by omega)] at hv144_1
  replace hv144_1 := Option.some.inj (hv144_1.symm.trans hx144_1)
  injection hv144_1 with hva_ hvn_ hvc_
  rw [hva_] at ge144_1
  rw [hvc_] at ul144_1
  have HL144_1 := Aside0.mk (show Kd.V (Kd.int .i64) 3 _ w.heap.size _ _ ((rd_T69 l0 0).f1) from Kd.V_mk ul144_1 ge144_1)
  clear hva_ hvn_ hvc_ ge144_1 ul144_1
  clear hcc144 hce144
  have qi144 : (0 < l0.length) = True := eq_true (by omega)
  (try rw [show ((0 : Int)).toNat = 0 from rfl] at hx144_0)
  (try rw [show 0 * 2 = 0 from rfl] at hx144_0)
  (try rw [Addr.add_zero'] at hx144_0)
  (try rw [show ((0 : Int)).toNat = 0 from rfl] at hx144_1)
  (try rw [show 0 * 2 = 0 from rfl] at hx144_1)
  (try rw [Addr.add_zero'] at hx144_1)
  have HR144_1 := Aside0.mk hi144_1
  have HC144_1 := Aside0.mk hl144_1
  clear hi144_1 hl144_1
  replace p144 := eq_true p144
  replace q144 := eq_true q144
  have p145 : 0 ≤ (0 : Int) := (by omega)
  have q145 : 0 < (l0.length : Int) := of_decide_eq_true (by first | (with_reducible assumption) | assumption)
  obtain ⟨ad145, A145_1, c145_1, e145, hx145_0, hx145_1, hl145_1, hi145_1⟩ := at_T69 (Kd.V_reads' HO0.out).2.2 0 p145 q145
  (try rw [← Nbq6.out] at hx145_0)
  obtain rfl : ad144 = ad145 := (by injection e145)
  obtain ⟨ce145, hce145, hMe145, hcc145⟩ := Kd.V_get HO0.out z69 0 p145 (by first | exact q145 | exact of_decide_eq_true (by first | (with_reducible assumption) | assumption) | (have e_ := (Kd.V_reads' HO0.out).1; omega))
  obtain ⟨ua145_1, uc145_1, rfl, ul145_1, ge145_1⟩ := k69_openF hMe145
  have hv145_1 := hcc145 1 _ rfl
  rw [add_field _ _ 1 (by omega)] at hv145_1
  replace hv145_1 := Option.some.inj (hv145_1.symm.trans hx145_1)
  injection hv145_1 with hva_ hvn_ hvc_
  rw [hva_] at ge145_1
  rw [hvc_] at ul145_1
  have HL145_1 := Aside0.mk (show Kd.V (Kd.int .i64) 3 _ w.heap.size _ _ ((rd_T69 l0 0).f1) from Kd.V_mk ul145_1 ge145_1)
  clear hva_ hvn_ hvc_ ge145_1 ul145_1
  clear hcc145 hce145
  have qi145 : (0 < l0.length) = True := eq_true (by omega)
  (try rw [show ((0 : Int)).toNat = 0 from rfl] at hx145_0)
  (try rw [show 0 * 2 = 0 from rfl] at hx145_0)
  (try rw [Addr.add_zero'] at hx145_0)
  (try rw [show ((0 : Int)).toNat = 0 from rfl] at hx145_1)
  (try rw [show 0 * 2 = 0 from rfl] at hx145_1)
  (try rw [Addr.add_zero'] at hx145_1)
  have HR145_1 := Aside0.mk hi145_1
  have HC145_1 := Aside0.mk hl145_1
  clear hi145_1 hl145_1
  replace p145 := eq_true p145
  replace q145 := eq_true q145
  have ea_ := Option.some.inj (hx144_1.symm.trans hx145_1)
  injection ea_ with ea_ en_ ec_
  subst ea_
  subst ec_
  clear en_
  go_wp2
  go_meet
  case rel => first | exact ⟨_, (decide ((((rd_T69 l0 0).f1).length : Int) ≤ 254)), (by first | rfl | (simp; done) | (simp [*]; done)), H', ⟨by first | omega | exact Nat.le_refl _⟩, ⟨by (with_reducible repeat (first | apply Kd.V_alloc | apply Kd.V_drewN | apply Kd.V_drew)); exact HO0.out⟩, ⟨by repeat (first | (with_reducible first | exact HB.out | apply below_alloc | apply pw_below_drewN | apply below_drew1) | exact HB.out)⟩⟩ | ((try rw [← Nbq6.out]); exact ⟨_, (decide ((((rd_T69 l0 0).f1).length : Int) ≤ 254)), (by first | rfl | (simp; done) | (simp [*]; done)), H', ⟨by first | omega | exact Nat.le_refl _⟩, ⟨by (with_reducible repeat (first | apply Kd.V_alloc | apply Kd.V_drewN | apply Kd.V_drew)); exact HO0.out⟩, ⟨by repeat (first | (with_reducible first | exact HB.out | apply below_alloc | apply pw_below_drewN | apply below_drew1) | exact HB.out)⟩⟩)
 case rest =>
  clear HC3
  try clear c1
  try clear p1
  try clear q1
  try clear hx1
  try clear qi1
  try clear c2
  try clear p2
  try clear c4
  try clear c4b0
  try clear c4b1
  try clear c5
  try clear c5b0
  try clear c5b1
  try clear q6
  try clear c7
  try clear hx144_0
  try clear hx144_1
  try clear hx145_0
  try clear hx145_1
  try clear p144
  try clear p145
  try clear q144
  try clear q145
  obtain ⟨kq, x22_2, rfl, HA, HJ2, HO_0, HB⟩ := hcut
  cases kq with
  | zero => exact absurd HA.out (by simp [interregnumref05_Prepend.j0])
  | succ kj2 =>
  have H := HA.out
  clear HA
  simp only [interregnumref05_Prepend.j0] at H
  by_cases c8 : x22_2 = true
  rotate_left
  ·replace c8 := Bool.eq_false_iff.mpr c8
   subst c8
   have H1 : ((some (([(⟨false, (([a1] : List Int))⟩ : S69)] : List (S69)) : List (S69))).bind fun y167 => (if y167.length + l0.length < 4398046511104 then (some (y167 ++ l0)) else (none))) = some r := by rw [if_neg (show ¬ (false = true) by decide)] at H; exact H
   clear H
   have H := H1
   clear H1
   obtain ⟨y164, hy164⟩ : ∃ y_ : List Int, y_ = (([a1] : List Int)) := ⟨_, rfl⟩
   replace H : ((some (([(⟨false, y164⟩ : S69)] : List (S69)) : List (S69))).bind fun y167 => (if y167.length + l0.length < 4398046511104 then (some (y167 ++ l0)) else (none))) = some r := by first | (rw [hy164]; with_reducible exact H) | (have H2_ := (Option.bind_some _ _).symm.trans H; rw [hy164]; with_reducible exact H2_) | (have H2_ := (Option.bind_some _ _).symm.trans H; with_reducible exact H2_) | with_reducible exact H | (rw [hy164]; exact H) | exact H
   have Ny164 := Aside0.mk hy164
   clear hy164
   obtain ⟨y167, hy167⟩ : ∃ y_ : List (S69), y_ = (([(⟨false, y164⟩ : S69)] : List (S69))) := ⟨_, rfl⟩
   replace H : (if y167.length + l0.length < 4398046511104 then (some (y167 ++ l0)) else (none)) = some r := by first | (rw [hy167]; with_reducible exact H) | (have H2_ := (Option.bind_some _ _).symm.trans H; rw [hy167]; with_reducible exact H2_) | (have H2_ := (Option.bind_some _ _).symm.trans H; with_reducible exact H2_) | with_reducible exact H | (rw [hy167]; exact H) | exact H
   have Ny167 := Aside0.mk hy167
   clear hy167
   by_cases c22 : y167.length + l0.length < 4398046511104
   rotate_left
   ·rw [if_neg c22] at H
    exact absurd H (by simp)
   rw [if_pos c22] at H
   have LMc22 := Aside0.mk c22
   clear c22
   obtain ⟨y170, hy170⟩ : ∃ y_ : List (S69), y_ = (y167 ++ l0) := ⟨_, rfl⟩
   replace H : (some y170) = some r := by first | (rw [hy170]; with_reducible exact H) | (have H2_ := (Option.bind_some _ _).symm.trans H; rw [hy170]; with_reducible exact H2_) | (have H2_ := (Option.bind_some _ _).symm.trans H; with_reducible exact H2_) | with_reducible exact H | (rw [hy170]; exact H) | exact H
   have Ny170 := Aside0.mk hy170
   clear hy170
   obtain rfl := Option.some.inj H
   go_wp2_with (first | ((with_reducible refine gate_dst (N := 36) rfl ?_); (try (refine gate_guard (by rfl) ?_; dsimp only)); refine Kd.R_lit (Kd.int .i64) _ 3 ?hg (N := 36) ?hd (xs := ([a1] : List Int)) (inner := [.int .i64 a1]) (ok := fun _ => True) (okp := fun _ => True) ?hr ?hp (fun _ hk => hk) trivial (Below.refl _ _) (Nat.le_refl _) (by simp) ?_; (case hd => rfl); (case hg => rfl); (case hr => first | (go_simp; done) | (go_simp; rfl) | (go_simp; simp [IntKind.wrap_u8, IntKind.wrap_u32]; done)); (case hp => exact (Reps.one (show Kd.M (Kd.int .i64) _ _ _ a1 [.int .i64 a1] from rfl) (Reps.none _ _))); intro v165 w23 ho24 hb hg_ hnew_; clear hg_ hnew_; (first | rw [← Ny164.out] at ho24 | (simp only [Int.reduceToNat] at ho24; rw [← Ny164.out] at ho24)); have n0_ := Aside0.mk (Kd.V_elder' (by (with_reducible repeat (first | apply Kd.V_alloc | apply Kd.V_drewN | apply Kd.V_drew)); exact HO_0.out) (Kd.R_base ho24) hb); have n1_ := Aside0.mk (Kd.R_lower (Kd.R_newM (M := fun k_ => (w.heap.size ≤ k_)) ho24 (below_size (by repeat (first | (with_reducible first | exact HB.out | apply below_alloc | apply pw_below_drewN | apply below_drew1) | exact HB.out))) (fun k_ h_ => h_)) (below_size (by repeat (first | (with_reducible first | exact HB.out | apply below_alloc | apply pw_below_drewN | apply below_drew1) | exact HB.out)))); have n2_ := Aside0.mk (below_step (by repeat (first | (with_reducible first | exact HB.out | apply below_alloc | apply pw_below_drewN | apply below_drew1) | exact HB.out)) hb); clear HO_0; clear HB; have HO_0 := n0_; have HO166 := n1_; have HB := n2_; clear n0_ n1_ n2_; clear hb ho24; obtain ⟨Ao25, co25, eo25⟩ := Kd.R_slice HO166.out; subst eo25) | ((with_reducible refine gate_dst (N := 38) rfl ?_); (try (refine gate_guard (by rfl) ?_; dsimp only)); refine Kd.N_lit k69 _ 69 ?hg (N' := 38) ?hd (xs := ([(⟨false, y164⟩ : S69)] : List (S69))) (inner := [.bool false, .slice Ao25 y164.length co25]) (ok := (fun k_ => (P0_ k_ ∨ w.heap.size ≤ k_))) (okp := (fun k_ => (P0_ k_ ∨ w.heap.size ≤ k_))) ?hr ?hp (fun _ hk => hk) ((show ∀ k_, w23.heap.size ≤ k_ → (fun k_ => (P0_ k_ ∨ w.heap.size ≤ k_)) k_ from fun k_ hk => (.inr (Nat.le_trans (below_size (by repeat (first | (with_reducible first | exact HB.out | apply below_alloc | apply pw_below_drewN | apply below_drew1) | exact HB.out))) hk))) _ (Nat.le_refl _)) (Below.refl _ _) (Nat.le_refl _) (by simp) ?_; (case hd => rfl); (case hg => rfl); (case hr => first | (go_simp; done) | (go_simp; rfl) | (go_simp; simp [IntKind.wrap_u8, IntKind.wrap_u32]; done)); (case hp => exact (Reps.c2 (show Kd.FK k69 _ _ (⟨false, y164⟩ : S69) [.bool false, .slice Ao25 y164.length co25] from (k69_mkF _ _ (⟨false, y164⟩ : S69) (Kd.R_reads' (Kd.R_mono (ok' := (fun k_ => (P0_ k_ ∨ w.heap.size ≤ k_))) (HO166.out) (fun k_ hk => (.inr (hk.1))))).2.1 (Kd.R_F (Kd.R_mono (ok' := (fun k_ => (P0_ k_ ∨ w.heap.size ≤ k_))) (HO166.out) (fun k_ hk => (.inr (hk.1))))))) (Reps.none _ _))); intro v168 w26 ho27 hb hg_ hnew_; clear hg_ hnew_; (first | rw [← Ny167.out] at ho27 | (simp only [Int.reduceToNat] at ho27; rw [← Ny167.out] at ho27)); have n0_ := Aside0.mk (Kd.V_elder' (by (with_reducible repeat (first | apply Kd.V_alloc | apply Kd.V_drewN | apply Kd.V_drew)); exact HO_0.out) (Kd.N_base ho27) hb); have n1_ := Aside0.mk (Kd.N_lower ho27 (below_size (by repeat (first | (with_reducible first | exact HB.out | apply below_alloc | apply pw_below_drewN | apply below_drew1) | exact HB.out)))); have n2_ := Aside0.mk (below_step (by repeat (first | (with_reducible first | exact HB.out | apply below_alloc | apply pw_below_drewN | apply below_drew1) | exact HB.out)) hb); clear HO_0; clear HB; clear HO166; have HO_0 := n0_; have HO169 := n1_; have HB := n2_; clear n0_ n1_ n2_; clear hb ho27) | ((with_reducible refine gate_builtin (b := .append) (xs := #[.tmp 38, .tmp 39]) rfl ?_); (try (refine gate_guard (by rfl) ?_; dsimp only)); at_builtin; refine Kd.N_append_rows k69 (w0 := w) w.heap.size rfl (.tmp 38) (.tmp 39) 30 69 (.agg #[(.bool false), (.slice none 0 0)]) 32 rfl Try.underlying30 info69 rfl (by decide) (by omega) v168 y167 l0 _ _ _ (fun k_ => (P0_ k_ ∨ w.heap.size ≤ k_)) (fun k_ => ((fun k_ => (P0_ k_ ∨ w.heap.size ≤ k_))) k_ ∧ some k_ ≠ (v168 : Value).ownBlock) rfl rfl ?aO ?aR (fun _ hk => hk) ?aF ?aB ?aS ?aL ?_; (case aR => exact (by skip; exact Kd.V_F (Kd.V_mono (ok' := (fun k_ => ((fun k_ => (P0_ k_ ∨ w.heap.size ≤ k_))) k_ ∧ some k_ ≠ (v168 : Value).ownBlock)) (HO_0.out) (fun k_ hk => ⟨hk.1.1, hk.2⟩)))); (case aB => exact (by repeat (first | (with_reducible first | exact HB.out | apply below_alloc | apply pw_below_drewN | apply below_drew1) | exact HB.out))); (case aF => exact (fun k_ hk => (.inr (Nat.le_trans (below_size (by repeat (first | (with_reducible first | exact HB.out | apply below_alloc | apply pw_below_drewN | apply below_drew1) | exact HB.out))) hk)))); (case aO => exact (by (with_reducible repeat (first | apply Kd.N_alloc | apply Kd.N_drewN | apply Kd.N_drew)); exact HO169.out)); (case aS => exact (below_size (by repeat (first | (with_reducible first | exact HB.out | apply below_alloc | apply pw_below_drewN | apply below_drew1) | exact HB.out)))); (case aL => have := LMc22.out; omega); intro v171 w28 ho hb hg hat; rw [← Ny170.out] at ho; have n0_ := Aside0.mk (Kd.V_afterv (ok := (fun k_ => (P0_ k_ ∨ w.heap.size ≤ k_))) (by (with_reducible repeat (first | apply Kd.V_alloc | apply Kd.V_drewN | apply Kd.V_drew)); exact Kd.V_mono HO_0.out (fun _ hk => ⟨hk.1.1, hk.2⟩)) hg hat); have n1_ := Aside0.mk (hb); have n2_ := Aside0.mk (ho); clear HO_0; clear HB; clear HO169; have HO_0 := n0_; have HB := n1_; have HO172 := n2_; clear n0_ n1_ n2_; clear ho hb hg hat))
   go_ret
   exact ⟨_, by first | rfl | (simp [errW_none, errW_some] <;> rfl) | (simp [*, errW_none, errW_some] <;> rfl), by (with_reducible repeat (first | apply Kd.N_alloc | apply Kd.N_drewN | apply Kd.N_drew)); exact HO172.out, by repeat (first | (with_reducible first | exact HB.out | apply below_alloc | apply pw_below_drewN | apply below_drew1) | exact HB.out)⟩
  subst c8
  have H1 : ((some (([a1] : List Int) : List Int)).bind fun y146 => (if 0 < (l0.length : Int) then (if y146.length + ((rd_T69 l0 0).f1).length < 17592186044416 then ((some (([(⟨false, (y146 ++ ((rd_T69 l0 0).f1))⟩ : S69)] : List (S69)) : List (S69))).bind fun y153 => (if 1 ≤ (l0.length : Int) then ((some (l0.drop 1 : List (S69))).bind fun y156 => (if y153.length + y156.length < 4398046511104 then (some (y153 ++ y156)) else (none))) else (none))) else (none)) else (none))) = some r := by rw [if_pos rfl] at H; exact H
  clear H
  have H := H1
  clear H1
  obtain ⟨y146, hy146⟩ : ∃ y_ : List Int, y_ = (([a1] : List Int)) := ⟨_, rfl⟩
  replace H : (if 0 < (l0.length : Int) then (if y146.length + ((rd_T69 l0 0).f1).length < 17592186044416 then ((some (([(⟨false, (y146 ++ ((rd_T69 l0 0).f1))⟩ : S69)] : List (S69)) : List (S69))).bind fun y153 => (if 1 ≤ (l0.length : Int) then ((some (l0.drop 1 : List (S69))).bind fun y156 => (if y153.length + y156.length < 4398046511104 then (some (y153 ++ y156)) else (none))) else (none))) else (none)) else (none)) = some r := by first | (rw [hy146]; with_reducible exact H) | (have H2_ := (Option.bind_some _ _).symm.trans H; rw [hy146]; with_reducible exact H2_) | (have H2_ := (Option.bind_some _ _).symm.trans H; with_reducible exact H2_) | with_reducible exact H | (rw [hy146]; exact H) | exact H
  have Ny146 := Aside0.mk hy146
  clear hy146
  by_cases c9 : 0 < (l0.length : Int)
  rotate_left
  ·rw [if_neg c9] at H
   exact absurd H (by simp)
  rw [if_pos c9] at H
  have c9b0 : decide (0 < (l0.length : Int)) = true := decide_eq_true c9
  have c9b1 : decide (0 < l0.length) = true := decide_eq_true (by omega)
  clear c9
  by_cases c10 : y146.length + ((rd_T69 l0 0).f1).length < 17592186044416
  rotate_left
  ·rw [if_neg c10] at H
   exact absurd H (by simp)
  rw [if_pos c10] at H
  have LMc10 := Aside0.mk c10
  clear c10
  obtain ⟨y150, hy150⟩ : ∃ y_ : List Int, y_ = (y146 ++ ((rd_T69 l0 0).f1)) := ⟨_, rfl⟩
  replace H : ((some (([(⟨false, y150⟩ : S69)] : List (S69)) : List (S69))).bind fun y153 => (if 1 ≤ (l0.length : Int) then ((some (l0.drop 1 : List (S69))).bind fun y156 => (if y153.length + y156.length < 4398046511104 then (some (y153 ++ y156)) else (none))) else (none))) = some r := by first | (rw [hy150]; with_reducible exact H) | (have H2_ := (Option.bind_some _ _).symm.trans H; rw [hy150]; with_reducible exact H2_) | (have H2_ := (Option.bind_some _ _).symm.trans H; with_reducible exact H2_) | with_reducible exact H | (rw [hy150]; exact H) | exact H
  have Ny150 := Aside0.mk hy150
  clear hy150
  obtain ⟨y153, hy153⟩ : ∃ y_ : List (S69), y_ = (([(⟨false, y150⟩ : S69)] : List (S69))) := ⟨_, rfl⟩
  replace H : (if 1 ≤ (l0.length : Int) then ((some (l0.drop 1 : List (S69))).bind fun y156 => (if y153.length + y156.length < 4398046511104 then (some (y153 ++ y156)) else (none))) else (none)) = some r := by first | (rw [hy153]; with_reducible exact H) | (have H2_ := (Option.bind_some _ _).symm.trans H; rw [hy153]; with_reducible exact H2_) | (have H2_ := (Option.bind_some _ _).symm.trans H; with_reducible exact H2_) | with_reducible exact H | (rw [hy153]; exact H) | exact H
  have Ny153 := Aside0.mk hy153
  clear hy153
  by_cases c11 : 1 ≤ (l0.length : Int)
  rotate_left
  ·rw [if_neg c11] at H
   exact absurd H (by simp)
  rw [if_pos c11] at H
  have c11b0 := eq_true c11
  have c11b1 : decide (1 ≤ (l0.length : Int)) = true := decide_eq_true c11
  clear c11
  obtain ⟨y156, hy156⟩ : ∃ y_ : List (S69), y_ = (l0.drop 1) := ⟨_, rfl⟩
  replace H : (if y153.length + y156.length < 4398046511104 then (some (y153 ++ y156)) else (none)) = some r := by first | (rw [hy156]; with_reducible exact H) | (have H2_ := (Option.bind_some _ _).symm.trans H; rw [hy156]; with_reducible exact H2_) | (have H2_ := (Option.bind_some _ _).symm.trans H; with_reducible exact H2_) | with_reducible exact H | (rw [hy156]; exact H) | exact H
  have Ny156 := Aside0.mk hy156
  clear hy156
  by_cases c12 : y153.length + y156.length < 4398046511104
  rotate_left
  ·rw [if_neg c12] at H
   exact absurd H (by simp)
  rw [if_pos c12] at H
  have LMc12 := Aside0.mk c12
  clear c12
  obtain ⟨y161, hy161⟩ : ∃ y_ : List (S69), y_ = (y153 ++ y156) := ⟨_, rfl⟩
  replace H : (some y161) = some r := by first | (rw [hy161]; with_reducible exact H) | (have H2_ := (Option.bind_some _ _).symm.trans H; rw [hy161]; with_reducible exact H2_) | (have H2_ := (Option.bind_some _ _).symm.trans H; with_reducible exact H2_) | with_reducible exact H | (rw [hy161]; exact H) | exact H
  have Ny161 := Aside0.mk hy161
  clear hy161
  obtain rfl := Option.some.inj H
  try go_wp2
  have n0_ := Aside0.mk (Kd.V_drew HO_0.out)
  have n1_ := Aside0.mk (below_drew1 HB.out)
  clear HO_0
  clear HB
  have HO_0 := n0_
  have HB := n1_
  clear n0_ n1_
  have p149 : 0 ≤ (0 : Int) := (by omega)
  have q149 : 0 < (l0.length : Int) := of_decide_eq_true (by first | (with_reducible assumption) | assumption)
  obtain ⟨ad149, A149_1, c149_1, e149, hx149_0, hx149_1, hl149_1, hi149_1⟩ := at_T69 (Kd.V_reads' HO_0.out).2.2 0 p149 q149
  cases e149
  obtain ⟨ce149, hce149, hMe149, hcc149⟩ := Kd.V_get HO_0.out z69 0 p149 (by first | exact q149 | exact of_decide_eq_true (by first | (with_reducible assumption) | assumption) | (have e_ := (Kd.V_reads' HO_0.out).1; omega))
  obtain ⟨ua149_1, uc149_1, rfl, ul149_1, ge149_1⟩ := k69_openF hMe149
  have hv149_1 := hcc149 1 _ rfl
  rw [add_field _ _ 1 (by omega)] at hv149_1
  replace hv149_1 := Option.some.inj (hv149_1.symm.trans hx149_1)
  injection hv149_1 with hva_ hvn_ hvc_
  rw [hva_] at ge149_1
  rw [hvc_] at ul149_1
  have HL149_1 := Aside0.mk (show Kd.V (Kd.int .i64) 3 _ w.heap.size _ _ ((rd_T69 l0 0).f1) from Kd.V_mk ul149_1 ge149_1)
  clear hva_ hvn_ hvc_ ge149_1 ul149_1
  clear hcc149 hce149
  have qi149 : (0 < l0.length) = True := eq_true (by omega)
  (try rw [show ((0 : Int)).toNat = 0 from rfl] at hx149_0)
  (try rw [show 0 * 2 = 0 from rfl] at hx149_0)
  (try rw [Addr.add_zero'] at hx149_0)
  (try rw [show ((0 : Int)).toNat = 0 from rfl] at hx149_1)
  (try rw [show 0 * 2 = 0 from rfl] at hx149_1)
  (try rw [Addr.add_zero'] at hx149_1)
  have HR149_1 := Aside0.mk hi149_1
  have HC149_1 := Aside0.mk hl149_1
  clear hi149_1 hl149_1
  replace p149 := eq_true p149
  replace q149 := eq_true q149
  have q14 : (1 : Int) ≤ ((l0.length : Int) : Int) := of_decide_eq_true (by first | (with_reducible assumption) | assumption)
  obtain ⟨i014, hi014, _, hsz14, _⟩ := info_parts info69
  have hroom14 : l0.length ≤ c0 := (Kd.V_reads' HO_0.out).2.1
  have hC14 : Kd.F k69 _ _ (some ad149) l0.length l0 := (Kd.V_at (base := w.heap.size) HO_0.out).2.2
  have hcut14 := cut_from (P := Try.prog) 30 69 .i64 Try.underlying30 hi014 2 hsz14 (some ad149) l0.length c0 1 (by omega) q14
  have hr14 := Kd.F_cut (m := (1 : Int).toNat) (c := c0) hC14 (by omega) hroom14
  obtain ⟨A14, hA14⟩ : ∃ A1, A1 = (if c0 = (1 : Int).toNat then (some ad149) else ((some ad149) : Option Addr).map (·.add ((1 : Int).toNat * 2))) := ⟨_, rfl⟩
  obtain ⟨c14, hc14⟩ : ∃ c1, c1 = c0 - (1 : Int).toNat := ⟨_, rfl⟩
  have hy14 : y156.length = l0.length - (1 : Int).toNat := (by rw [Ny156.out, List.length_drop] <;> omega)
  rw [show (l0).drop (1 : Int).toNat = y156 from Ny156.out.symm] at hr14
  replace hr14 : Kd.F k69 _ _ A14 y156.length y156 := (by rw [hA14]; exact hr14)
  rw [← hy14, ← hA14, ← hc14] at hcut14
  have HO160 := Aside0.mk (show Kd.V k69 69 _ w.heap.size _ (.slice A14 y156.length c14) y156 from Kd.V_mk (by rw [hy14, hc14]; exact Nat.sub_le_sub_right hroom14 _) hr14)
  have HC160 := Aside0.mk (show y156.length ≤ c14 from by rw [hy14, hc14]; exact Nat.sub_le_sub_right hroom14 _)
  clear hr14 hC14 hroom14 hi014 hsz14 hc14
  have KY14 := Aside0.mk hy14
  have KA14 := Aside0.mk hA14
  clear hy14 hA14
  replace q14 := eq_true q14
  refine start_ (n := 13) (S := fun w' => w'.cell? ad149 = some (.bool ((rd_T69 l0 0).f0)) ∧ w'.cell? ⟨ad149.block, ad149.off + 1, none⟩ = some (.slice A149_1 ((rd_T69 l0 0).f1).length c149_1)) (ds := [6, 11]) #[false, false, false, false, false, false, false, false, false, false, false, false, false] (by kernel_rfl) rfl rfl ⟨hx149_0, hx149_1⟩ (fun hHeld => ?_); refine with_tabW interregnumref05_Prepend.tab2 interregnumref05_Prepend.bits2 (fun HT_ HW_ => ?_)
  generalize wc.drew = w13 at HO_0 HB HL149_1 HO160 HR149_1 hx149_0 hx149_1 hHeld ⊢
  refine pure_ (i := 0) (N := some 23) (v := ?_) (a' := ?_) #[true, false, false, false, false, false, false, false, false, false, false, false, false] rfl rfl (any_of HT_.out (by kernel_rfl)) (fun _ _ _ h => h) (Or.inl ⟨by rfl, ?_⟩) ?_ ?_
  rotate_left
  ·intro w'
   go_simp
   with_reducible rfl
  rotate_left
  ·simp only [Act.put, q1_, q2_, q3_, i64_w, i32_w]
   rfl
  refine pure_ (i := 2) (N := some 25) (v := ?_) (a' := ?_) #[true, false, true, false, false, false, false, false, false, false, false, false, false] rfl rfl (any_of HT_.out (by kernel_rfl)) (fun _ _ _ h => h) (Or.inl ⟨by rfl, ?_⟩) ?_ ?_
  rotate_left
  ·intro w'
   go_simp
   with_reducible rfl
  rotate_left
  ·simp only [Act.put, q1_, q2_, q3_, i64_w, i32_w]
   rfl
  refine pure_ (i := 3) (N := some 26) (v := ?_) (a' := ?_) #[true, false, true, true, false, false, false, false, false, false, false, false, false] rfl rfl (any_of HT_.out (by kernel_rfl)) (fun _ _ _ h => h) (Or.inl ⟨by rfl, ?_⟩) ?_ ?_
  rotate_left
  ·intro w'
   go_simp
   with_reducible rfl
  rotate_left
  ·simp only [Act.put, q1_, q2_, q3_, i64_w, i32_w]
   rfl
  refine pure_ (i := 4) (N := some 27) (v := ?_) (a' := ?_) #[true, false, true, true, true, false, false, false, false, false, false, false, false] rfl rfl (any_of HT_.out (by kernel_rfl)) (fun _ _ _ h => h) (Or.inl ⟨by rfl, ?_⟩) ?_ ?_
  rotate_left
  ·intro w'
   go_simp
   with_reducible rfl
  rotate_left
  ·simp only [Act.put, q1_, q2_, q3_, i64_w, i32_w]
   rfl
  refine pure_ (i := 9) (N := some 32) (v := ?_) (a' := ?_) #[true, false, true, true, true, false, false, false, false, true, false, false, false] rfl rfl (any_of HT_.out (by kernel_rfl)) (fun _ _ _ h => h) (Or.inl ⟨by rfl, ?_⟩) ?_ ?_
  rotate_left
  ·intro w'
   go_simp
   with_reducible rfl
  rotate_left
  ·simp only [Act.put, q1_, q2_, q3_, i64_w, i32_w]
   rfl
  refine pure_ (i := 10) (N := some 33) (v := ?_) (a' := ?_) #[true, false, true, true, true, false, false, false, false, true, true, false, false] rfl rfl (any_of HT_.out (by kernel_rfl)) (fun _ _ _ h => h) (Or.inl ⟨by rfl, ?_⟩) ?_ ?_
  rotate_left
  ·intro w'
   go_simp
   with_reducible rfl
  rotate_left
  ·simp only [Act.put, q1_, q2_, q3_, i64_w, i32_w]
   rfl
  refine take_ (i := 5) (N := some 28) (v := ?_) (a' := ?_) #[true, false, true, true, true, true, false, false, false, true, true, false, false] rfl rfl (take_ofW HT_.out HW_.out (by kernel_rfl)) (fun _ _ _ h => h) (Or.inl ⟨by rfl, ?_⟩) hHeld ?_ ?_
  rotate_left
  ·rintro w' ⟨s0, s1⟩
   go_simp
   with_reducible rfl
  rotate_left
  ·simp only [Act.put, q1_, q2_, q3_, i64_w, i32_w]
   rfl
  refine one_ (i := 1) (N := some 24) #[true, true, true, true, true, true, false, false, false, true, true, false, false] rfl rfl (one_of HT_.out (by kernel_rfl)) (by decide) (fun K hK => ?_)
  refine Kd.R_lit_step (Kd.int .i64) _ 3 ?hg (N := 24) ?hd (xs := ([a1] : List Int)) (inner := [.int .i64 a1]) (ok := fun _ => True) (okp := fun _ => True) ?hr ?hp (fun _ hk => hk) trivial (Below.refl _ _) (Nat.le_refl _) (by simp) ?_; (case hd => rfl); (case hg => rfl); (case hr => first | (go_simp; done) | (go_simp; rfl) | (go_simp; simp [IntKind.wrap_u8, IntKind.wrap_u32]; done)); (case hp => exact (Reps.one (show Kd.M (Kd.int .i64) _ _ _ a1 [.int .i64 a1] from rfl) (Reps.none _ _)))
  intro v147 w15 ho16 hb hg_ hnew_
  have hneS : some ad149.block ≠ v147.ownBlock := fun e => by have h1_ := Kd.R_base ho16 _ e.symm; have h2_ := World.block_lt_of_cell? _ _ hHeld.1; omega
  have HS0_ := (hb.cell (World.block_lt_of_cell? _ _ (hHeld.1))).trans (hHeld.1)
  have HS1_ := (hb.cell (World.block_lt_of_cell? _ _ (hHeld.2))).trans (hHeld.2)
  clear hg_ hnew_
  (first | rw [← Ny146.out] at ho16 | (simp only [Int.reduceToNat] at ho16; rw [← Ny146.out] at ho16))
  have n0_ := Aside0.mk (Kd.V_elder' (by (with_reducible repeat (first | apply Kd.V_alloc | apply Kd.V_drewN | apply Kd.V_drew)); exact HO_0.out) (Kd.R_base ho16) hb)
  have n1_ := Aside0.mk (Kd.V_elder' (by (with_reducible repeat (first | apply Kd.V_alloc | apply Kd.V_drewN | apply Kd.V_drew)); exact HL149_1.out) (Kd.R_base ho16) hb)
  have n2_ := Aside0.mk (Kd.V_elder' (by (with_reducible repeat (first | apply Kd.V_alloc | apply Kd.V_drewN | apply Kd.V_drew)); exact HO160.out) (Kd.R_base ho16) hb)
  have n3_ := Aside0.mk (Kd.R_lower (Kd.R_newM (M := fun k_ => (w.heap.size ≤ k_)) ho16 (below_size (by repeat (first | (with_reducible first | exact HB.out | apply below_alloc | apply pw_below_drewN | apply below_drew1) | exact HB.out))) (fun k_ h_ => h_)) (below_size (by repeat (first | (with_reducible first | exact HB.out | apply below_alloc | apply pw_below_drewN | apply below_drew1) | exact HB.out))))
  have n4_ := Aside0.mk (Kd.C_below (by repeat (first | (with_reducible exact HR149_1.out) | (with_reducible refine Kd.C_alloc ?_ _) | (with_reducible refine Kd.C_drewN ?_ _) | (with_reducible refine Kd.C_drew ?_) | exact HR149_1.out)) hb)
  have n5_ := Aside0.mk (below_step (by repeat (first | (with_reducible first | exact HB.out | apply below_alloc | apply pw_below_drewN | apply below_drew1) | exact HB.out)) hb)
  clear HO_0
  clear HL149_1
  clear HO160
  clear HR149_1
  clear HB
  have HO_0 := n0_
  have HL149_1 := n1_
  have HO160 := n2_
  have HO148 := n3_
  have HR149_1 := n4_
  have HB := n5_
  clear n0_ n1_ n2_ n3_ n4_ n5_
  clear hb ho16
  refine hK.out _ _ ⟨HS0_, HS1_⟩ (fun hHeld => ?_)
  clear hK K
  refine norm_ (a' := ?_) ?_ ?_
  rotate_left
  ·show Act.put _ (some 24) _ = _
   simp only [Act.put, q1_, q2_, q3_, i64_w, i32_w]
   rfl
  refine last_ (i := 6) (N := some 29) #[true, true, true, true, true, true, true, false, false, true, true, false, false] rfl rfl (one_of HT_.out (by kernel_rfl)) (by decide) (fun K hK => ?_)
  refine Kd.R_append_rows_step (Kd.int .i64) (w0 := w) w.heap.size (by rfl) (.tmp 24) (.tmp 28) 67 3 (.int .i64 0) 8 rfl Try.underlying67 info3 rfl (by decide) (by omega) v147 y146 ((rd_T69 l0 0).f1) _ _ _ (fun k_ => (w.heap.size ≤ k_)) (fun _ => False) rfl rfl ?aO ?aR (fun _ _ h => h) (fun _ h => h.elim) ?aF ?aB ?aS ?aL ?_
  (case aR => repeat (first | exact (by repeat (first | (with_reducible exact HR149_1.out) | (with_reducible refine Kd.C_alloc ?_ _) | (with_reducible refine Kd.C_drewN ?_ _) | (with_reducible refine Kd.C_drew ?_) | exact HR149_1.out)) | (with_reducible refine Kd.C_alloc ?_ _) | (with_reducible refine Kd.C_drewN ?_ _) | (with_reducible refine Kd.C_drew ?_)))
  (case aB => exact (by repeat (first | (with_reducible first | exact HB.out | apply below_alloc | apply pw_below_drewN | apply below_drew1) | exact HB.out)))
  (case aF => exact (fun k_ hk => (Nat.le_trans (below_size (by repeat (first | (with_reducible first | exact HB.out | apply below_alloc | apply pw_below_drewN | apply below_drew1) | exact HB.out))) hk)))
  (case aO => exact (by (with_reducible repeat (first | apply Kd.R_alloc | apply Kd.R_drewN | apply Kd.R_drew)); exact Kd.R_mono HO148.out (fun _ hk => hk.1)))
  (case aS => exact (below_size (by repeat (first | (with_reducible first | exact HB.out | apply below_alloc | apply pw_below_drewN | apply below_drew1) | exact HB.out))))
  (case aL => have := LMc10.out; omega)
  intro v151 w17 ho hb hg hat
  have hHeld := And.intro (cell_grown hg hHeld.1 hneS) (cell_grown hg hHeld.2 hneS)
  rw [← Ny150.out] at ho
  have n0_ := Aside0.mk (Kd.V_afterv (ok := (fun k_ => (P0_ k_ ∨ w.heap.size ≤ k_))) (by (with_reducible repeat (first | apply Kd.V_alloc | apply Kd.V_drewN | apply Kd.V_drew)); exact HO_0.out) hg hat)
  have n1_ := Aside0.mk (Kd.V_afterv (ok := (fun k_ => (P0_ k_ ∨ w.heap.size ≤ k_))) (by (with_reducible repeat (first | apply Kd.V_alloc | apply Kd.V_drewN | apply Kd.V_drew)); exact HL149_1.out) hg hat)
  have n2_ := Aside0.mk (Kd.V_afterv (ok := (fun k_ => (P0_ k_ ∨ w.heap.size ≤ k_))) (by (with_reducible repeat (first | apply Kd.V_alloc | apply Kd.V_drewN | apply Kd.V_drew)); exact HO160.out) hg hat)
  have n3_ := Aside0.mk (hb)
  have n4_ := Aside0.mk (ho)
  clear HO_0
  clear HL149_1
  clear HO160
  clear HB
  clear HO148
  have HO_0 := n0_
  have HL149_1 := n1_
  have HO160 := n2_
  have HB := n3_
  have HO152 := n4_
  clear n0_ n1_ n2_ n3_ n4_
  clear ho hb hg hat
  obtain ⟨Ao18, co18, eo18⟩ := Kd.R_slice HO152.out
  (first | subst eo18 | (injection eo18 with f1_ f2_ f3_; have f4_ := f1_.symm; have f5_ := f3_.symm; clear f1_ f2_ f3_; subst f4_; subst f5_))
  refine hK.out _ _ ?_
  clear hK K
  refine norm_ (a' := ?_) ?_ ?_
  rotate_left
  ·show Act.put _ (some 29) _ = _
   simp only [Act.put, q1_, q2_, q3_, i64_w, i32_w]
   rfl
  refine pure_ (i := 7) (N := some 30) (v := ?_) (a' := ?_) #[true, true, true, true, true, true, true, true, false, true, true, false, false] rfl rfl (any_of HT_.out (by kernel_rfl)) (fun _ _ _ h => h) (Or.inl ⟨by rfl, ?_⟩) ?_ ?_
  rotate_left
  ·intro w'
   go_simp
   with_reducible rfl
  rotate_left
  ·simp only [Act.put, q1_, q2_, q3_, i64_w, i32_w]
   rfl
  refine one_ (i := 8) (N := some 31) #[true, true, true, true, true, true, true, true, true, true, true, false, false] rfl rfl (one_of HT_.out (by kernel_rfl)) (by decide) (fun K hK => ?_)
  refine Kd.N_lit_step k69 _ 69 ?hg (N' := 31) ?hd (xs := ([(⟨false, y150⟩ : S69)] : List (S69))) (inner := [.bool false, .slice Ao18 y150.length co18]) (ok := (fun k_ => (P0_ k_ ∨ w.heap.size ≤ k_))) (okp := (fun k_ => (P0_ k_ ∨ w.heap.size ≤ k_))) ?hr ?hp (fun _ hk => hk) ((show ∀ k_, w17.heap.size ≤ k_ → (fun k_ => (P0_ k_ ∨ w.heap.size ≤ k_)) k_ from fun k_ hk => (.inr (Nat.le_trans (below_size (by repeat (first | (with_reducible first | exact HB.out | apply below_alloc | apply pw_below_drewN | apply below_drew1) | exact HB.out))) hk))) _ (Nat.le_refl _)) (Below.refl _ _) (Nat.le_refl _) (by simp) ?_; (case hd => rfl); (case hg => rfl); (case hr => first | (go_simp; done) | (go_simp; rfl) | (go_simp; simp [IntKind.wrap_u8, IntKind.wrap_u32]; done)); (case hp => exact (Reps.c2 (show Kd.FK k69 _ _ (⟨false, y150⟩ : S69) [.bool false, .slice Ao18 y150.length co18] from (k69_mkF _ _ (⟨false, y150⟩ : S69) (Kd.R_reads' (Kd.R_mono (ok' := (fun k_ => (P0_ k_ ∨ w.heap.size ≤ k_))) (HO152.out) (fun k_ hk => (.inr (hk))))).2.1 (Kd.R_F (Kd.R_mono (ok' := (fun k_ => (P0_ k_ ∨ w.heap.size ≤ k_))) (HO152.out) (fun k_ hk => (.inr (hk))))))) (Reps.none _ _)))
  intro v154 w19 ho20 hb hg_ hnew_
  have HS0_ := (hb.cell (World.block_lt_of_cell? _ _ (hHeld.1))).trans (hHeld.1)
  have HS1_ := (hb.cell (World.block_lt_of_cell? _ _ (hHeld.2))).trans (hHeld.2)
  clear hg_ hnew_
  (first | rw [← Ny153.out] at ho20 | (simp only [Int.reduceToNat] at ho20; rw [← Ny153.out] at ho20))
  have n0_ := Aside0.mk (Kd.V_elder' (by (with_reducible repeat (first | apply Kd.V_alloc | apply Kd.V_drewN | apply Kd.V_drew)); exact HO_0.out) (Kd.N_base ho20) hb)
  have n1_ := Aside0.mk (Kd.V_elder' (by (with_reducible repeat (first | apply Kd.V_alloc | apply Kd.V_drewN | apply Kd.V_drew)); exact HL149_1.out) (Kd.N_base ho20) hb)
  have n2_ := Aside0.mk (Kd.V_elder' (by (with_reducible repeat (first | apply Kd.V_alloc | apply Kd.V_drewN | apply Kd.V_drew)); exact HO160.out) (Kd.N_base ho20) hb)
  have n3_ := Aside0.mk (Kd.N_lower ho20 (below_size (by repeat (first | (with_reducible first | exact HB.out | apply below_alloc | apply pw_below_drewN | apply below_drew1) | exact HB.out))))
  have n4_ := Aside0.mk (below_step (by repeat (first | (with_reducible first | exact HB.out | apply below_alloc | apply pw_below_drewN | apply below_drew1) | exact HB.out)) hb)
  clear HO_0
  clear HL149_1
  clear HO160
  clear HB
  clear HO152
  have HO_0 := n0_
  have HL149_1 := n1_
  have HO160 := n2_
  have HO155 := n3_
  have HB := n4_
  clear n0_ n1_ n2_ n3_ n4_
  clear hb ho20
  refine hK.out _ _ ⟨HS0_, HS1_⟩ (fun hHeld => ?_)
  clear hK K
  refine norm_ (a' := ?_) ?_ ?_
  rotate_left
  ·show Act.put _ (some 31) _ = _
   simp only [Act.put, q1_, q2_, q3_, i64_w, i32_w]
   rfl
  refine last_ (i := 11) (N := some 34) #[true, true, true, true, true, true, true, true, true, true, true, true, false] rfl rfl (one_of HT_.out (by kernel_rfl)) (by decide) (fun K hK => ?_)
  refine Kd.N_append_rows_step k69 (w0 := w) w.heap.size (by rfl) (.tmp 31) (.tmp 33) 30 69 (.agg #[(.bool false), (.slice none 0 0)]) 32 rfl Try.underlying30 info69 rfl (by decide) (by omega) v154 y153 y156 _ _ _ (fun k_ => (P0_ k_ ∨ w.heap.size ≤ k_)) (fun k_ => ((fun k_ => (P0_ k_ ∨ w.heap.size ≤ k_))) k_ ∧ some k_ ≠ (v154 : Value).ownBlock) rfl rfl ?aO ?aR (fun _ hk => hk) ?aF ?aB ?aS ?aL ?_
  (case aR => exact (by skip; exact Kd.V_F (Kd.V_mono (ok' := (fun k_ => ((fun k_ => (P0_ k_ ∨ w.heap.size ≤ k_))) k_ ∧ some k_ ≠ (v154 : Value).ownBlock)) (HO160.out) (fun k_ hk => ⟨hk.1.1, hk.2⟩))))
  (case aB => exact (by repeat (first | (with_reducible first | exact HB.out | apply below_alloc | apply pw_below_drewN | apply below_drew1) | exact HB.out)))
  (case aF => exact (fun k_ hk => (.inr (Nat.le_trans (below_size (by repeat (first | (with_reducible first | exact HB.out | apply below_alloc | apply pw_below_drewN | apply below_drew1) | exact HB.out))) hk))))
  (case aO => exact (by (with_reducible repeat (first | apply Kd.N_alloc | apply Kd.N_drewN | apply Kd.N_drew)); exact HO155.out))
  (case aS => exact (below_size (by repeat (first | (with_reducible first | exact HB.out | apply below_alloc | apply pw_below_drewN | apply below_drew1) | exact HB.out))))
  (case aL => have := LMc12.out; omega)
  intro v162 w21 ho hb hg hat
  rw [← Ny161.out] at ho
  have n0_ := Aside0.mk (Kd.V_afterv (ok := (fun k_ => (P0_ k_ ∨ w.heap.size ≤ k_))) (by (with_reducible repeat (first | apply Kd.V_alloc | apply Kd.V_drewN | apply Kd.V_drew)); exact Kd.V_mono HO_0.out (fun _ hk => ⟨hk.1.1, hk.2⟩)) hg hat)
  have n1_ := Aside0.mk (Kd.V_afterv (ok := (fun k_ => (P0_ k_ ∨ w.heap.size ≤ k_))) (by (with_reducible repeat (first | apply Kd.V_alloc | apply Kd.V_drewN | apply Kd.V_drew)); exact Kd.V_mono HL149_1.out (fun _ hk => ⟨hk.1.1, hk.2⟩)) hg hat)
  have n2_ := Aside0.mk (Kd.V_afterv (ok := (fun k_ => (P0_ k_ ∨ w.heap.size ≤ k_))) (by (with_reducible repeat (first | apply Kd.V_alloc | apply Kd.V_drewN | apply Kd.V_drew)); exact Kd.V_mono HO160.out (fun _ hk => ⟨hk.1.1, hk.2⟩)) hg hat)
  have n3_ := Aside0.mk (hb)
  have n4_ := Aside0.mk (ho)
  clear HO_0
  clear HL149_1
  clear HO160
  clear HB
  clear HO155
  have HO_0 := n0_
  have HL149_1 := n1_
  have HO160 := n2_
  have HB := n3_
  have HO163 := n4_
  clear n0_ n1_ n2_ n3_ n4_
  clear ho hb hg hat
  refine hK.out _ _ ?_
  clear hK K
  refine norm_ (a' := ?_) ?_ ?_
  rotate_left
  ·show Act.put _ (some 34) _ = _
   simp only [Act.put, q1_, q2_, q3_, i64_w, i32_w]
   rfl
  refine pure_ (i := 12) (N := some 4) (v := ?_) (a' := ?_) #[true, true, true, true, true, true, true, true, true, true, true, true, true] rfl rfl (any_of HT_.out (by kernel_rfl)) (fun _ _ _ h => h) (Or.inl ⟨by rfl, ?_⟩) ?_ ?_
  rotate_left
  ·intro w'
   go_simp
   with_reducible rfl
  rotate_left
  ·simp only [Act.put, q1_, q2_, q3_, i64_w, i32_w]
   rfl
  refine done_ (done_of HT_.out (by kernel_rfl)) ?_
  try go_wp2
  go_ret
  exact ⟨_, by first | rfl | (simp [errW_none, errW_some] <;> rfl) | (simp [*, errW_none, errW_some] <;> rfl), by (with_reducible repeat (first | apply Kd.N_alloc | apply Kd.N_drewN | apply Kd.N_drew)); exact HO163.out, by repeat (first | (with_reducible first | exact HB.out | apply below_alloc | apply pw_below_drewN | apply below_drew1) | exact HB.out)⟩

/-! ### interregnumref05_Hop: function 21 -/
def interregnumref05_Hop.f (a0 : Int) : Option (Bool) := if a0 = 0 then (some false) else (if (a0 / 16777216) = 127 then (some false) else (some (decide ((a0 / 16777216) < 224))))
set_option maxHeartbeats 8000000 in
set_option maxRecDepth 100000 in
theorem interregnumref05_Hop.calls (a0 : Int) (r : Bool) (w : World) (h : interregnumref05_Hop.f a0 = some r) :
    Calls Try.prog 21 #[.int .u32 a0] w fun e w' => e = .returned (.bool r) ∧ Drawn0 w w' := by
 have H : (if a0 = 0 then (some false) else (if (a0 / 16777216) = 127 then (some false) else (some (decide ((a0 / 16777216) < 224))))) = some r := h
 clear h
 by_cases c2 : a0 = 0
 ·rw [if_pos c2] at H
  have c2b0 : (a0 == 0) = true := beq_iff_eq.mpr c2
  have c2b1 : (a0 != 0) = false := bne_eq_false_iff_eq.mpr c2
  clear c2
  obtain rfl := Option.some.inj H
  go_enter Try.func21, Try.ntmps21
  go_wp2
  go_ret
  exact ⟨by first | rfl | (simp; done) | (simp [*]; done), by repeat (first | exact Drawn0.refl _ | apply Drawn0.step)⟩
 rw [if_neg c2] at H
 have c2b0 : (a0 == 0) = false := beq_eq_false_iff_ne.mpr c2
 have c2b1 : (a0 != 0) = true := bne_iff_ne.mpr c2
 by_cases c3 : (a0 / 16777216) = 127
 rotate_left
 ·rw [if_neg c3] at H
  have c3b0 : ((a0 / 16777216) == 127) = false := beq_eq_false_iff_ne.mpr c3
  have c3b1 : ((a0 / 16777216) != 127) = true := bne_iff_ne.mpr c3
  obtain rfl := Option.some.inj H
  go_enter Try.func21, Try.ntmps21
  go_wp2
  go_ret
  exact ⟨by first | rfl | (simp; done) | (simp [*]; done), by repeat (first | exact Drawn0.refl _ | apply Drawn0.step)⟩
 rw [if_pos c3] at H
 have c3b0 : ((a0 / 16777216) == 127) = true := beq_iff_eq.mpr c3
 have c3b1 : ((a0 / 16777216) != 127) = false := bne_eq_false_iff_eq.mpr c3
 clear c3
 obtain rfl := Option.some.inj H
 go_enter Try.func21, Try.ntmps21
 go_wp2
 go_ret
 exact ⟨by first | rfl | (simp; done) | (simp [*]; done), by repeat (first | exact Drawn0.refl _ | apply Drawn0.step)⟩

end Go.Proofs.Ytjdebhkdbdbepaa.PExportTells
