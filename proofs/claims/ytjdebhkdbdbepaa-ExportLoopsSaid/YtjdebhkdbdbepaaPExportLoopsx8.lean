-- Lean text by a program of this repo (wip/tools/printx.py), out of Lean's own print of the translation
import Derived.Test.YtjdebhkdbdbepaaPExportLoopsx0
namespace Go.Proofs.Ytjdebhkdbdbepaa.PExportLoops
open Go.RowKit Go.Proofs.YtjdebhkdbdbepaaW.PrintWords Go.Proofs.YtjdebhkdbdbepaaW.PrintLast Go.Proofs.YtjdebhkdbdbepaaW.PrintMore
attribute [local go_sem] max2_int min2_int max_two min_two max_three min_three max_four min_four   -- for this text's walks alone
set_option linter.unusedVariables false
set_option linter.unusedSimpArgs false

/-! ### interregnumref05_First: function 13 -/
def interregnumref05_First.j0 : Nat → List (S69) → Bool → Option (Int × Bool)
  | 0, _, _ => none
  | k + 1, x0, x20 => if x20 = true then (some (0, false)) else (if 0 < (x0.length : Int) then (if 0 < (((rd_T69 x0 0).f1).length : Int) then (some (rd ((rd_T69 x0 0).f1) 0, true)) else (none)) else (none))
def interregnumref05_First.f (k : Nat) (l0 : List (S69)) : Option (Int × Bool) := if (l0.length : Int) = 0 then (interregnumref05_First.j0 k l0 true) else (if 0 < (l0.length : Int) then (if (rd_T69 l0 0).f0 = true then (interregnumref05_First.j0 k l0 true) else (interregnumref05_First.j0 k l0 ((((rd_T69 l0 0).f1).length : Int) == 0))) else (none))
theorem interregnumref05_First.mono_l : ∀ k, (∀ y0 y1, LeO (interregnumref05_First.j0 k y0 y1) (interregnumref05_First.j0 (k + 1) y0 y1))
  | 0 => fun _ _ r h => by simp [interregnumref05_First.j0] at h
  | k + 1 => by
    have ih0 := interregnumref05_First.mono_l k
    · intro y0 y1
      unfold interregnumref05_First.j0
      repeat' first
      | (with_reducible exact ih0 _ _)
      | (with_reducible exact LeO.refl _)
      | (with_reducible exact LeO.none _)
      | (with_reducible refine LeO.ite ?_ ?_)
      | (with_reducible refine LeO.bind ?_ (fun _ => ?_))
      | exact ih0 _ _
      | exact LeO.none _
      | refine LeO.ite ?_ ?_
      | refine LeO.bind ?_ (fun _ => ?_)
theorem interregnumref05_First.mono : ∀ a0 k, LeO (interregnumref05_First.f k a0) (interregnumref05_First.f (k + 1) a0) := by
  intro a0 k
  have ih0 := interregnumref05_First.mono_l k
  unfold interregnumref05_First.f
  repeat' first
      | (with_reducible exact ih0 _ _)
      | (with_reducible exact LeO.refl _)
      | (with_reducible exact LeO.none _)
      | (with_reducible refine LeO.ite ?_ ?_)
      | (with_reducible refine LeO.bind ?_ (fun _ => ?_))
      | exact ih0 _ _
      | exact LeO.none _
      | refine LeO.ite ?_ ?_
      | refine LeO.bind ?_ (fun _ => ?_)
set_option maxHeartbeats 8000000 in
set_option maxRecDepth 100000 in
theorem interregnumref05_First.calls (k : Nat) (A0 : Option Addr) (c0 : Nat) (l0 : List (S69)) (r1 : Int) (r2 : Bool) (w : World) (hr0 : Kd.C k69 w A0 l0.length l0) (hc0 : l0.length ≤ c0) (h : interregnumref05_First.f k l0 = some (r1, r2)) :
    Calls Try.prog 13 #[.slice A0 l0.length c0] w fun e w' => e = .returned (.tuple #[.int .i64 r1, .bool r2]) ∧ Drawn0 w w' := by
  have HR0 := Aside0.mk hr0
  have HC0 := Aside0.mk hc0
  clear hr0 hc0
  have H : (if (l0.length : Int) = 0 then (interregnumref05_First.j0 k l0 true) else (if 0 < (l0.length : Int) then (if (rd_T69 l0 0).f0 = true then (interregnumref05_First.j0 k l0 true) else (interregnumref05_First.j0 k l0 ((((rd_T69 l0 0).f1).length : Int) == 0))) else (none))) = some (r1, r2) := h
  clear h
  have HC2 := Aside0.mk H
  clear H
  go_enter Try.func13, Try.ntmps13
  go_upto_region 1 with (fail)
  go_cut [20] (fun v20 wc => ∃ (kq : Nat) (x20_1 : Bool), v20 = .bool x20_1 ∧ Aside0 (interregnumref05_First.j0 kq l0 x20_1 = some (r1, r2)) ∧ Aside0 (kq ≤ k) ∧ Drawn0 w wc)
  case first =>
    have H := HC2.out
    clear HC2
    by_cases c3 : (l0.length : Int) = 0
    · rw [if_pos c3] at H
      have c3b0 : ((l0.length : Int) == 0) = true := beq_iff_eq.mpr c3
      have c3b1 : ((l0.length : Int) != 0) = false := bne_eq_false_iff_eq.mpr c3
      clear c3
      (first | rw [c3b0] | (simp only [i64_w, i32_w]; rw [c3b0]) | skip)
      have H' := Aside0.mk H
      clear H
      go_wp2
      go_meet
      case rel => exact ⟨_, (true), (by first | rfl | (simp; done) | (simp [*]; done)), H', ⟨by first | omega | exact Nat.le_refl _⟩, by repeat (first | exact Drawn0.refl _ | apply Drawn0.step)⟩
    · rw [if_neg c3] at H
      have c3b0 : ((l0.length : Int) == 0) = false := beq_eq_false_iff_ne.mpr c3
      have c3b1 : ((l0.length : Int) != 0) = true := bne_iff_ne.mpr c3
      have c3b2 : ¬ (l0 = []) := fun h_ => c3 (by rw [h_]; rfl)
      (first | rw [c3b0] | (simp only [i64_w, i32_w]; rw [c3b0]) | skip)
      by_cases c4 : 0 < (l0.length : Int)
      · rw [if_pos c4] at H
        have c4b0 : decide (0 < (l0.length : Int)) = true := decide_eq_true c4
        have c4b1 : decide (0 < l0.length) = true := decide_eq_true (by omega)
        clear c4
        obtain ⟨bq5, hbq5⟩ : ∃ b_ : Bool, b_ = ((rd_T69 l0 0).f0) := ⟨_, rfl⟩
        replace H : (if bq5 = true then (interregnumref05_First.j0 k l0 true) else (interregnumref05_First.j0 k l0 ((((rd_T69 l0 0).f1).length : Int) == 0))) = some (r1, r2) := by rw [← hbq5] at H; exact H
        have Nbq5 := Aside0.mk hbq5
        clear hbq5
        by_cases c6 : bq5 = true
        · subst c6
          have H1 : (interregnumref05_First.j0 k l0 true) = some (r1, r2) := by rw [if_pos rfl] at H; exact H
          clear H
          have H := H1
          clear H1
          have H' := Aside0.mk H
          clear H
          have p140 : 0 ≤ (0 : Int) := (by omega)
          have q140 : 0 < (l0.length : Int) := of_decide_eq_true (by first | (with_reducible assumption) | assumption)
          obtain ⟨ad140, A140_1, c140_1, e140, hx140_0, hx140_1, hl140_1, hi140_1⟩ := at_T69 HR0.out 0 p140 q140
          (try rw [← Nbq5.out] at hx140_0)
          cases e140
          have qi140 : (0 < l0.length) = True := eq_true (by omega)
          (try rw [show ((0 : Int)).toNat = 0 from rfl] at hx140_0)
          (try rw [show 0 * 2 = 0 from rfl] at hx140_0)
          (try rw [Addr.add_zero'] at hx140_0)
          (try rw [show ((0 : Int)).toNat = 0 from rfl] at hx140_1)
          (try rw [show 0 * 2 = 0 from rfl] at hx140_1)
          (try rw [Addr.add_zero'] at hx140_1)
          have HR140_1 := Aside0.mk hi140_1
          have HC140_1 := Aside0.mk hl140_1
          clear hi140_1 hl140_1
          replace p140 := eq_true p140
          replace q140 := eq_true q140
          go_wp2
          go_meet
          case rel => first | exact ⟨_, (true), (by first | rfl | (simp; done) | (simp [*]; done)), H', ⟨by first | omega | exact Nat.le_refl _⟩, by repeat (first | exact Drawn0.refl _ | apply Drawn0.step)⟩ | ((try rw [← Nbq5.out]); exact ⟨_, (true), (by first | rfl | (simp; done) | (simp [*]; done)), H', ⟨by first | omega | exact Nat.le_refl _⟩, by repeat (first | exact Drawn0.refl _ | apply Drawn0.step)⟩)
        · replace c6 := Bool.eq_false_iff.mpr c6
          subst c6
          have H1 : (interregnumref05_First.j0 k l0 ((((rd_T69 l0 0).f1).length : Int) == 0)) = some (r1, r2) := by rw [if_neg (show ¬ (false = true) by decide)] at H; exact H
          clear H
          have H := H1
          clear H1
          have H' := Aside0.mk H
          clear H
          have p140 : 0 ≤ (0 : Int) := (by omega)
          have q140 : 0 < (l0.length : Int) := of_decide_eq_true (by first | (with_reducible assumption) | assumption)
          obtain ⟨ad140, A140_1, c140_1, e140, hx140_0, hx140_1, hl140_1, hi140_1⟩ := at_T69 HR0.out 0 p140 q140
          (try rw [← Nbq5.out] at hx140_0)
          cases e140
          have qi140 : (0 < l0.length) = True := eq_true (by omega)
          (try rw [show ((0 : Int)).toNat = 0 from rfl] at hx140_0)
          (try rw [show 0 * 2 = 0 from rfl] at hx140_0)
          (try rw [Addr.add_zero'] at hx140_0)
          (try rw [show ((0 : Int)).toNat = 0 from rfl] at hx140_1)
          (try rw [show 0 * 2 = 0 from rfl] at hx140_1)
          (try rw [Addr.add_zero'] at hx140_1)
          have HR140_1 := Aside0.mk hi140_1
          have HC140_1 := Aside0.mk hl140_1
          clear hi140_1 hl140_1
          replace p140 := eq_true p140
          replace q140 := eq_true q140
          have p141 : 0 ≤ (0 : Int) := (by omega)
          have q141 : 0 < (l0.length : Int) := of_decide_eq_true (by first | (with_reducible assumption) | assumption)
          obtain ⟨ad141, A141_1, c141_1, e141, hx141_0, hx141_1, hl141_1, hi141_1⟩ := at_T69 HR0.out 0 p141 q141
          (try rw [← Nbq5.out] at hx141_0)
          obtain rfl : ad140 = ad141 := (by injection e141)
          have qi141 : (0 < l0.length) = True := eq_true (by omega)
          (try rw [show ((0 : Int)).toNat = 0 from rfl] at hx141_0)
          (try rw [show 0 * 2 = 0 from rfl] at hx141_0)
          (try rw [Addr.add_zero'] at hx141_0)
          (try rw [show ((0 : Int)).toNat = 0 from rfl] at hx141_1)
          (try rw [show 0 * 2 = 0 from rfl] at hx141_1)
          (try rw [Addr.add_zero'] at hx141_1)
          have HR141_1 := Aside0.mk hi141_1
          have HC141_1 := Aside0.mk hl141_1
          clear hi141_1 hl141_1
          replace p141 := eq_true p141
          replace q141 := eq_true q141
          have ea_ := Option.some.inj (hx140_1.symm.trans hx141_1)
          injection ea_ with ea_ en_ ec_
          subst ea_
          subst ec_
          clear en_
          go_wp2
          go_meet
          case rel => first | exact ⟨_, (((((rd_T69 l0 0).f1).length : Int) == 0)), (by first | rfl | (simp; done) | (simp [*]; done)), H', ⟨by first | omega | exact Nat.le_refl _⟩, by repeat (first | exact Drawn0.refl _ | apply Drawn0.step)⟩ | ((try rw [← Nbq5.out]); exact ⟨_, (((((rd_T69 l0 0).f1).length : Int) == 0)), (by first | rfl | (simp; done) | (simp [*]; done)), H', ⟨by first | omega | exact Nat.le_refl _⟩, by repeat (first | exact Drawn0.refl _ | apply Drawn0.step)⟩)
      · rw [if_neg c4] at H
        exact absurd H (by simp)
  case rest =>
    clear HC2
    try clear c1
    try clear p1
    try clear q1
    try clear hx1
    try clear qi1
    try clear p2
    try clear c3
    try clear c3b0
    try clear c3b1
    try clear c3b2
    try clear c4
    try clear c4b0
    try clear c4b1
    try clear q5
    try clear c6
    try clear hx140_0
    try clear hx140_1
    try clear hx141_0
    try clear hx141_1
    try clear p140
    try clear p141
    try clear q140
    try clear q141
    obtain ⟨kq, x20_1, rfl, HA, HJ1, ⟨mc1, rfl⟩⟩ := hcut
    cases kq with
    | zero => exact absurd HA.out (by simp [interregnumref05_First.j0])
    | succ kj1 =>
      have H := HA.out
      clear HA
      simp only [interregnumref05_First.j0] at H
      by_cases c7 : x20_1 = true
      · subst c7
        have H1 : (some (0, false)) = some (r1, r2) := by rw [if_pos rfl] at H; exact H
        clear H
        have H := H1
        clear H1
        simp only [Option.some.injEq, Prod.mk.injEq] at H
        obtain ⟨rfl, rfl⟩ := H
        go_wp2
        go_ret2
        exact ⟨by first | rfl | (simp; done) | (simp [*]; done), by repeat (first | exact Drawn0.refl _ | apply Drawn0.step)⟩
      · replace c7 := Bool.eq_false_iff.mpr c7
        subst c7
        have H1 : (if 0 < (l0.length : Int) then (if 0 < (((rd_T69 l0 0).f1).length : Int) then (some (rd ((rd_T69 l0 0).f1) 0, true)) else (none)) else (none)) = some (r1, r2) := by rw [if_neg (show ¬ (false = true) by decide)] at H; exact H
        clear H
        have H := H1
        clear H1
        by_cases c8 : 0 < (l0.length : Int)
        · rw [if_pos c8] at H
          have c8b0 : decide (0 < (l0.length : Int)) = true := decide_eq_true c8
          have c8b1 : decide (0 < l0.length) = true := decide_eq_true (by omega)
          clear c8
          by_cases c9 : 0 < (((rd_T69 l0 0).f1).length : Int)
          · rw [if_pos c9] at H
            have c9b0 : decide (0 < (((rd_T69 l0 0).f1).length : Int)) = true := decide_eq_true c9
            have c9b1 : decide (0 < ((rd_T69 l0 0).f1).length) = true := decide_eq_true (by omega)
            clear c9
            simp only [Option.some.injEq, Prod.mk.injEq] at H
            obtain ⟨rfl, rfl⟩ := H
            have p142 : 0 ≤ (0 : Int) := (by omega)
            have q142 : 0 < (l0.length : Int) := of_decide_eq_true (by first | (with_reducible assumption) | assumption)
            obtain ⟨ad142, A142_1, c142_1, e142, hx142_0, hx142_1, hl142_1, hi142_1⟩ := at_T69 HR0.out 0 p142 q142
            cases e142
            have qi142 : (0 < l0.length) = True := eq_true (by omega)
            (try rw [show ((0 : Int)).toNat = 0 from rfl] at hx142_0)
            (try rw [show 0 * 2 = 0 from rfl] at hx142_0)
            (try rw [Addr.add_zero'] at hx142_0)
            (try rw [show ((0 : Int)).toNat = 0 from rfl] at hx142_1)
            (try rw [show 0 * 2 = 0 from rfl] at hx142_1)
            (try rw [Addr.add_zero'] at hx142_1)
            have HR142_1 := Aside0.mk hi142_1
            have HC142_1 := Aside0.mk hl142_1
            clear hi142_1 hl142_1
            replace p142 := eq_true p142
            replace q142 := eq_true q142
            have p143 : 0 ≤ (0 : Int) := (by omega)
            have q143 : 0 < (((rd_T69 l0 0).f1).length : Int) := of_decide_eq_true (by first | (with_reducible assumption) | assumption)
            obtain ⟨ad143, e143, hx143_0⟩ := Kd.at_int HR142_1.out 0 p143 q143
            cases e143
            have qi143 : (0 < ((rd_T69 l0 0).f1).length) = True := eq_true (by omega)
            (try rw [show ((0 : Int)).toNat = 0 from rfl] at hx143_0)
            (try rw [Addr.add_zero'] at hx143_0)
            replace p143 := eq_true p143
            replace q143 := eq_true q143
            go_wp2
            go_ret2
            exact ⟨by first | rfl | (simp; done) | (simp [*]; done), by repeat (first | exact Drawn0.refl _ | apply Drawn0.step)⟩
          · rw [if_neg c9] at H
            exact absurd H (by simp)
        · rw [if_neg c8] at H
          exact absurd H (by simp)

/-! ### interregnumref05_Length: function 14 -/
def interregnumref05_Length.l0 : Nat → List (S69) → Int → Int → Option (Int)
  | 0, _, _, _ => none
  | k + 1, x0, x3, x4 => if x4 < (x0.length : Int) then (if 0 ≤ x4 then (if (rd_T69 x0 x4).f0 = true then (interregnumref05_Length.l0 k x0 (wrap64 (x3 + 1)) (wrap64 (x4 + 1))) else (interregnumref05_Length.l0 k x0 (wrap64 (x3 + (((rd_T69 x0 x4).f1).length : Int))) (wrap64 (x4 + 1)))) else (none)) else (some x3)
def interregnumref05_Length.f (k : Nat) (l0 : List (S69)) : Option (Int) := interregnumref05_Length.l0 k l0 0 0
theorem interregnumref05_Length.mono_l : ∀ k, (∀ y0 y1 y2, LeO (interregnumref05_Length.l0 k y0 y1 y2) (interregnumref05_Length.l0 (k + 1) y0 y1 y2))
  | 0 => fun _ _ _ r h => by simp [interregnumref05_Length.l0] at h
  | k + 1 => by
    have ih0 := interregnumref05_Length.mono_l k
    · intro y0 y1 y2
      unfold interregnumref05_Length.l0
      repeat' first
      | (with_reducible exact ih0 _ _ _)
      | (with_reducible exact LeO.refl _)
      | (with_reducible exact LeO.none _)
      | (with_reducible refine LeO.ite ?_ ?_)
      | (with_reducible refine LeO.bind ?_ (fun _ => ?_))
      | exact ih0 _ _ _
      | exact LeO.none _
      | refine LeO.ite ?_ ?_
      | refine LeO.bind ?_ (fun _ => ?_)
theorem interregnumref05_Length.mono : ∀ a0 k, LeO (interregnumref05_Length.f k a0) (interregnumref05_Length.f (k + 1) a0) := by
  intro a0 k
  have ih0 := interregnumref05_Length.mono_l k
  unfold interregnumref05_Length.f
  repeat' first
      | (with_reducible exact ih0 _ _ _)
      | (with_reducible exact LeO.refl _)
      | (with_reducible exact LeO.none _)
      | (with_reducible refine LeO.ite ?_ ?_)
      | (with_reducible refine LeO.bind ?_ (fun _ => ?_))
      | exact ih0 _ _ _
      | exact LeO.none _
      | refine LeO.ite ?_ ?_
      | refine LeO.bind ?_ (fun _ => ?_)
set_option maxHeartbeats 8000000 in
set_option maxRecDepth 100000 in
theorem interregnumref05_Length.calls (k : Nat) (A0 : Option Addr) (c0 : Nat) (l0 : List (S69)) (r : Int) (w : World) (hr0 : Kd.C k69 w A0 l0.length l0) (hc0 : l0.length ≤ c0) (h : interregnumref05_Length.f k l0 = some r) :
    Calls Try.prog 14 #[.slice A0 l0.length c0] w fun e w' => e = .returned (.int .i64 r) ∧ Drawn0 w w' := by
  have HR0 := Aside0.mk hr0
  have HC0 := Aside0.mk hc0
  clear hr0 hc0
  have H : (interregnumref05_Length.l0 k l0 0 0) = some r := h
  clear h
  have H' := Aside0.mk H
  clear H
  go_enter Try.func14, Try.ntmps14
  go_wp2
  go_loopg [3, 4] k (fun kq v3 v4 w' => ∃ (x3_1 : Int) (x4_1 : Int), v3 = .int .i64 x3_1 ∧ v4 = .int .i64 x4_1 ∧ Aside0 (interregnumref05_Length.l0 kq l0 x3_1 x4_1 = some r) ∧ Aside0 (kq ≤ k) ∧ Drawn0 w w')
  case atStart => exact ⟨(0), (0), (by first | rfl | (simp; done) | (simp [*]; done)), (by first | rfl | (simp; done) | (simp [*]; done)), H', ⟨Nat.le_refl _⟩, by repeat (first | exact Drawn0.refl _ | apply Drawn0.step)⟩
  case round =>
    clear H'
    try clear c1
    obtain ⟨x3_1, x4_1, rfl, rfl, HA, HK1, ⟨m1, rfl⟩⟩ := hrel
    cases gk with
    | zero => exact absurd HA.out (by simp [interregnumref05_Length.l0])
    | succ k1 =>
      have H := HA.out
      clear HA
      simp only [interregnumref05_Length.l0] at H
      by_cases c2 : x4_1 < (l0.length : Int)
      · rw [if_pos c2] at H
        have c2b0 : decide (x4_1 < (l0.length : Int)) = true := decide_eq_true c2
        clear c2
        by_cases c3 : 0 ≤ x4_1
        · rw [if_pos c3] at H
          have c3b0 : decide (0 ≤ x4_1) = true := decide_eq_true c3
          clear c3
          obtain ⟨bq4, hbq4⟩ : ∃ b_ : Bool, b_ = ((rd_T69 l0 x4_1).f0) := ⟨_, rfl⟩
          replace H : (if bq4 = true then (interregnumref05_Length.l0 k1 l0 (wrap64 (x3_1 + 1)) (wrap64 (x4_1 + 1))) else (interregnumref05_Length.l0 k1 l0 (wrap64 (x3_1 + (((rd_T69 l0 x4_1).f1).length : Int))) (wrap64 (x4_1 + 1)))) = some r := by rw [← hbq4] at H; exact H
          have Nbq4 := Aside0.mk hbq4
          clear hbq4
          by_cases c5 : bq4 = true
          · subst c5
            have H1 : (interregnumref05_Length.l0 k1 l0 (wrap64 (x3_1 + 1)) (wrap64 (x4_1 + 1))) = some r := by rw [if_pos rfl] at H; exact H
            clear H
            have H := H1
            clear H1
            have H' := Aside0.mk H
            clear H
            have p144 : 0 ≤ (x4_1 : Int) := of_decide_eq_true (by first | (with_reducible assumption) | assumption)
            have q144 : x4_1 < (l0.length : Int) := of_decide_eq_true (by first | (with_reducible assumption) | assumption)
            obtain ⟨ad144, A144_1, c144_1, e144, hx144_0, hx144_1, hl144_1, hi144_1⟩ := at_T69 HR0.out x4_1 p144 q144
            (try rw [← Nbq4.out] at hx144_0)
            cases e144
            have HR144_1 := Aside0.mk hi144_1
            have HC144_1 := Aside0.mk hl144_1
            clear hi144_1 hl144_1
            replace p144 := eq_true p144
            replace q144 := eq_true q144
            go_wp2
            go_roundg k1
            case measure => have := HK1.out; omega
            case rel => first | exact ⟨(wrap64 (x3_1 + 1)), (wrap64 (x4_1 + 1)), (by first | rfl | (simp; done) | (simp [*]; done)), (by first | rfl | (simp; done) | (simp [*]; done)), H', ⟨by have := HK1.out; omega⟩, by repeat (first | exact Drawn0.refl _ | apply Drawn0.step)⟩ | ((try rw [← Nbq4.out]); exact ⟨(wrap64 (x3_1 + 1)), (wrap64 (x4_1 + 1)), (by first | rfl | (simp; done) | (simp [*]; done)), (by first | rfl | (simp; done) | (simp [*]; done)), H', ⟨by have := HK1.out; omega⟩, by repeat (first | exact Drawn0.refl _ | apply Drawn0.step)⟩)
          · replace c5 := Bool.eq_false_iff.mpr c5
            subst c5
            have H1 : (interregnumref05_Length.l0 k1 l0 (wrap64 (x3_1 + (((rd_T69 l0 x4_1).f1).length : Int))) (wrap64 (x4_1 + 1))) = some r := by rw [if_neg (show ¬ (false = true) by decide)] at H; exact H
            clear H
            have H := H1
            clear H1
            have H' := Aside0.mk H
            clear H
            have p144 : 0 ≤ (x4_1 : Int) := of_decide_eq_true (by first | (with_reducible assumption) | assumption)
            have q144 : x4_1 < (l0.length : Int) := of_decide_eq_true (by first | (with_reducible assumption) | assumption)
            obtain ⟨ad144, A144_1, c144_1, e144, hx144_0, hx144_1, hl144_1, hi144_1⟩ := at_T69 HR0.out x4_1 p144 q144
            (try rw [← Nbq4.out] at hx144_0)
            cases e144
            have HR144_1 := Aside0.mk hi144_1
            have HC144_1 := Aside0.mk hl144_1
            clear hi144_1 hl144_1
            replace p144 := eq_true p144
            replace q144 := eq_true q144
            have p145 : 0 ≤ (x4_1 : Int) := of_decide_eq_true (by first | (with_reducible assumption) | assumption)
            have q145 : x4_1 < (l0.length : Int) := of_decide_eq_true (by first | (with_reducible assumption) | assumption)
            obtain ⟨ad145, A145_1, c145_1, e145, hx145_0, hx145_1, hl145_1, hi145_1⟩ := at_T69 HR0.out x4_1 p145 q145
            (try rw [← Nbq4.out] at hx145_0)
            obtain rfl : ad144 = ad145 := (by injection e145)
            have HR145_1 := Aside0.mk hi145_1
            have HC145_1 := Aside0.mk hl145_1
            clear hi145_1 hl145_1
            replace p145 := eq_true p145
            replace q145 := eq_true q145
            have ea_ := Option.some.inj (hx144_1.symm.trans hx145_1)
            injection ea_ with ea_ en_ ec_
            subst ea_
            subst ec_
            clear en_
            go_wp2
            go_roundg k1
            case measure => have := HK1.out; omega
            case rel => first | exact ⟨(wrap64 (x3_1 + (((rd_T69 l0 x4_1).f1).length : Int))), (wrap64 (x4_1 + 1)), (by first | rfl | (simp; done) | (simp [*]; done)), (by first | rfl | (simp; done) | (simp [*]; done)), H', ⟨by have := HK1.out; omega⟩, by repeat (first | exact Drawn0.refl _ | apply Drawn0.step)⟩ | ((try rw [← Nbq4.out]); exact ⟨(wrap64 (x3_1 + (((rd_T69 l0 x4_1).f1).length : Int))), (wrap64 (x4_1 + 1)), (by first | rfl | (simp; done) | (simp [*]; done)), (by first | rfl | (simp; done) | (simp [*]; done)), H', ⟨by have := HK1.out; omega⟩, by repeat (first | exact Drawn0.refl _ | apply Drawn0.step)⟩)
        · rw [if_neg c3] at H
          exact absurd H (by simp)
      · rw [if_neg c2] at H
        have c2b0 : decide (x4_1 < (l0.length : Int)) = false := decide_eq_false c2
        clear c2
        obtain rfl := Option.some.inj H
        go_wp2
        go_ret
        exact ⟨by first | rfl | (simp; done) | (simp [*]; done), by repeat (first | exact Drawn0.refl _ | apply Drawn0.step)⟩

end Go.Proofs.Ytjdebhkdbdbepaa.PExportLoops
