-- Lean text by a program of this repo (wip/tools/printx.py), out of Lean's own print of the translation
import Derived.Test.YtjdebhkdbdbepaaPExportTellsx0
namespace Go.Proofs.Ytjdebhkdbdbepaa.PExportTells
open Go.RowKit Go.Proofs.YtjdebhkdbdbepaaW.PrintWords Go.Proofs.YtjdebhkdbdbepaaW.PrintLast Go.Proofs.YtjdebhkdbdbepaaW.PrintMore
attribute [local go_sem] max2_int min2_int max_two min_two max_three min_three max_four min_four   -- for this text's walks alone
set_option linter.unusedVariables false
set_option linter.unusedSimpArgs false

/-! ### interregnumref05_GoodPath: function 49 -/
mutual
def interregnumref05_GoodPath.l0 : Nat → List (S69) → Int → Int → Option (Bool)
  | 0, _, _, _ => none
  | k + 1, x0, x3, x4 => if x4 < (x0.length : Int) then (if 0 ≤ x4 then (if (((rd_T69 x0 x4).f1).length : Int) < 1 then (interregnumref05_GoodPath.j1 k x0 x3 x4 true) else (interregnumref05_GoodPath.j1 k x0 x3 x4 (decide ((((rd_T69 x0 x4).f1).length : Int) > 255)))) else (none)) else (some (decide (x3 ≤ 64)))
def interregnumref05_GoodPath.j1 : Nat → List (S69) → Int → Int → Bool → Option (Bool)
  | 0, _, _, _, _ => none
  | k + 1, x0, x3, x4, x27 => if x27 = true then (some false) else (interregnumref05_GoodPath.l1 k x0 x3 x4 0)
def interregnumref05_GoodPath.l1 : Nat → List (S69) → Int → Int → Int → Option (Bool)
  | 0, _, _, _, _ => none
  | k + 1, x0, x3, x4, x5 => if 0 ≤ x4 then (if x4 < (x0.length : Int) then (if x5 < (((rd_T69 x0 x4).f1).length : Int) then (if 0 ≤ x5 then (if (rd ((rd_T69 x0 x4).f1) x5) < 1 then (some false) else (if (rd ((rd_T69 x0 x4).f1) x5) > 4294967295 then (some false) else (interregnumref05_GoodPath.l1 k x0 (wrap64 (x3 + 1)) x4 (wrap64 (x5 + 1))))) else (none)) else (interregnumref05_GoodPath.l0 k x0 x3 (wrap64 (x4 + 1)))) else (none)) else (none)
end
def interregnumref05_GoodPath.f (k : Nat) (l0 : List (S69)) : Option (Bool) := interregnumref05_GoodPath.l0 k l0 0 0
theorem interregnumref05_GoodPath.mono_l : ∀ k, (∀ y0 y1 y2, LeO (interregnumref05_GoodPath.l0 k y0 y1 y2) (interregnumref05_GoodPath.l0 (k + 1) y0 y1 y2)) ∧ (∀ y0 y1 y2 y3, LeO (interregnumref05_GoodPath.j1 k y0 y1 y2 y3) (interregnumref05_GoodPath.j1 (k + 1) y0 y1 y2 y3)) ∧ (∀ y0 y1 y2 y3, LeO (interregnumref05_GoodPath.l1 k y0 y1 y2 y3) (interregnumref05_GoodPath.l1 (k + 1) y0 y1 y2 y3))
  | 0 => ⟨fun _ _ _ r h => by simp [interregnumref05_GoodPath.l0] at h, fun _ _ _ _ r h => by simp [interregnumref05_GoodPath.j1] at h, fun _ _ _ _ r h => by simp [interregnumref05_GoodPath.l1] at h⟩
  | k + 1 => by
    obtain ⟨ih0, ih1, ih2⟩ := interregnumref05_GoodPath.mono_l k
    refine ⟨?_, ?_, ?_⟩
    · intro y0 y1 y2
      unfold interregnumref05_GoodPath.l0
      repeat' first
      | (with_reducible exact ih0 _ _ _)
      | (with_reducible exact ih1 _ _ _ _)
      | (with_reducible exact ih2 _ _ _ _)
      | (with_reducible exact LeO.refl _)
      | (with_reducible exact LeO.none _)
      | (with_reducible refine LeO.ite ?_ ?_)
      | (with_reducible refine LeO.bind ?_ (fun _ => ?_))
      | exact ih0 _ _ _
      | exact ih1 _ _ _ _
      | exact ih2 _ _ _ _
      | exact LeO.none _
      | refine LeO.ite ?_ ?_
      | refine LeO.bind ?_ (fun _ => ?_)
    · intro y0 y1 y2 y3
      unfold interregnumref05_GoodPath.j1
      repeat' first
      | (with_reducible exact ih0 _ _ _)
      | (with_reducible exact ih1 _ _ _ _)
      | (with_reducible exact ih2 _ _ _ _)
      | (with_reducible exact LeO.refl _)
      | (with_reducible exact LeO.none _)
      | (with_reducible refine LeO.ite ?_ ?_)
      | (with_reducible refine LeO.bind ?_ (fun _ => ?_))
      | exact ih0 _ _ _
      | exact ih1 _ _ _ _
      | exact ih2 _ _ _ _
      | exact LeO.none _
      | refine LeO.ite ?_ ?_
      | refine LeO.bind ?_ (fun _ => ?_)
    · intro y0 y1 y2 y3
      unfold interregnumref05_GoodPath.l1
      repeat' first
      | (with_reducible exact ih0 _ _ _)
      | (with_reducible exact ih1 _ _ _ _)
      | (with_reducible exact ih2 _ _ _ _)
      | (with_reducible exact LeO.refl _)
      | (with_reducible exact LeO.none _)
      | (with_reducible refine LeO.ite ?_ ?_)
      | (with_reducible refine LeO.bind ?_ (fun _ => ?_))
      | exact ih0 _ _ _
      | exact ih1 _ _ _ _
      | exact ih2 _ _ _ _
      | exact LeO.none _
      | refine LeO.ite ?_ ?_
      | refine LeO.bind ?_ (fun _ => ?_)
theorem interregnumref05_GoodPath.mono : ∀ a0 k, LeO (interregnumref05_GoodPath.f k a0) (interregnumref05_GoodPath.f (k + 1) a0) := by
  intro a0 k
  obtain ⟨ih0, ih1, ih2⟩ := interregnumref05_GoodPath.mono_l k
  unfold interregnumref05_GoodPath.f
  repeat' first
      | (with_reducible exact ih0 _ _ _)
      | (with_reducible exact ih1 _ _ _ _)
      | (with_reducible exact ih2 _ _ _ _)
      | (with_reducible exact LeO.refl _)
      | (with_reducible exact LeO.none _)
      | (with_reducible refine LeO.ite ?_ ?_)
      | (with_reducible refine LeO.bind ?_ (fun _ => ?_))
      | exact ih0 _ _ _
      | exact ih1 _ _ _ _
      | exact ih2 _ _ _ _
      | exact LeO.none _
      | refine LeO.ite ?_ ?_
      | refine LeO.bind ?_ (fun _ => ?_)
set_option maxHeartbeats 8000000 in
set_option maxRecDepth 100000 in
theorem interregnumref05_GoodPath.calls (k : Nat) (A0 : Option Addr) (c0 : Nat) (l0 : List (S69)) (r : Bool) (w : World) (hr0 : Kd.C k69 w A0 l0.length l0) (hc0 : l0.length ≤ c0) (h : interregnumref05_GoodPath.f k l0 = some r) :
    Calls Try.prog 49 #[.slice A0 l0.length c0] w fun e w' => e = .returned (.bool r) ∧ Drawn0 w w' := by
 have HR0 := Aside0.mk hr0
 have HC0 := Aside0.mk hc0
 clear hr0 hc0
 have H : (interregnumref05_GoodPath.l0 k l0 0 0) = some r := h
 clear h
 have H' := Aside0.mk H
 clear H
 go_enter Try.func49, Try.ntmps49
 go_wp2
 go_loopg [3, 4] k (fun kq v3 v4 w' => ∃ (x3_1 : Int) (x4_1 : Int), v3 = .int .i64 x3_1 ∧ v4 = .int .i64 x4_1 ∧ Aside0 (interregnumref05_GoodPath.l0 kq l0 x3_1 x4_1 = some r) ∧ Aside0 (kq ≤ k) ∧ Drawn0 w w')
 case atStart => exact ⟨(0), (0), (by first | rfl | (simp; done) | (simp [*]; done)), (by first | rfl | (simp; done) | (simp [*]; done)), H', ⟨Nat.le_refl _⟩, by repeat (first | exact Drawn0.refl _ | apply Drawn0.step)⟩
 clear H'
 obtain ⟨x3_1, x4_1, rfl, rfl, HA, HK1, ⟨m1, rfl⟩⟩ := hrel
 cases gk with
 | zero => exact absurd HA.out (by simp [interregnumref05_GoodPath.l0])
 | succ k1 =>
 have H := HA.out
 clear HA
 simp only [interregnumref05_GoodPath.l0] at H
 by_cases c2 : x4_1 < (l0.length : Int)
 rotate_left
 ·rw [if_neg c2] at H
  have c2b0 : decide (x4_1 < (l0.length : Int)) = false := decide_eq_false c2
  clear c2
  obtain rfl := Option.some.inj H
  go_wp2
  go_ret
  exact ⟨by first | rfl | (simp; done) | (simp [*]; done), by repeat (first | exact Drawn0.refl _ | apply Drawn0.step)⟩
 rw [if_pos c2] at H
 have c2b0 : decide (x4_1 < (l0.length : Int)) = true := decide_eq_true c2
 clear c2
 have HC3 := Aside0.mk H
 clear H
 go_upto_region 5 with (fail)
 go_cut [27] (fun v27 wc => ∃ (kq : Nat) (x27_2 : Bool), v27 = .bool x27_2 ∧ Aside0 (interregnumref05_GoodPath.j1 kq l0 x3_1 x4_1 x27_2 = some r) ∧ Aside0 (kq ≤ k1) ∧ Drawn0 w wc)
 case first =>
  have H := HC3.out
  clear HC3
  by_cases c4 : 0 ≤ x4_1
  rotate_left
  ·rw [if_neg c4] at H
   exact absurd H (by simp)
  rw [if_pos c4] at H
  have c4b0 : decide (0 ≤ x4_1) = true := decide_eq_true c4
  clear c4
  (first | rw [c4b0] | (simp only [i64_w, i32_w]; rw [c4b0]) | skip)
  by_cases c5 : (((rd_T69 l0 x4_1).f1).length : Int) < 1
  ·rw [if_pos c5] at H
   have c5b0 : decide ((((rd_T69 l0 x4_1).f1).length : Int) < 1) = true := decide_eq_true c5
   have c5b1 : decide (((rd_T69 l0 x4_1).f1).length < 1) = true := decide_eq_true (by omega)
   clear c5
   have H' := Aside0.mk H
   clear H
   have p173 : 0 ≤ (x4_1 : Int) := of_decide_eq_true (by first | (with_reducible assumption) | assumption)
   have q173 : x4_1 < (l0.length : Int) := of_decide_eq_true (by first | (with_reducible assumption) | assumption)
   obtain ⟨ad173, A173_1, c173_1, e173, hx173_0, hx173_1, hl173_1, hi173_1⟩ := at_T69 HR0.out x4_1 p173 q173
   cases e173
   have HR173_1 := Aside0.mk hi173_1
   have HC173_1 := Aside0.mk hl173_1
   clear hi173_1 hl173_1
   replace p173 := eq_true p173
   replace q173 := eq_true q173
   go_wp2
   go_meet
   case rel => exact ⟨_, (true), (by first | rfl | (simp; done) | (simp [*]; done)), H', ⟨by have := HK1.out; first | omega | exact Nat.le_refl _⟩, by repeat (first | exact Drawn0.refl _ | apply Drawn0.step)⟩
  rw [if_neg c5] at H
  have c5b0 : decide ((((rd_T69 l0 x4_1).f1).length : Int) < 1) = false := decide_eq_false c5
  have c5b1 : decide (((rd_T69 l0 x4_1).f1).length < 1) = false := decide_eq_false (by omega)
  clear c5
  have H' := Aside0.mk H
  clear H
  have p173 : 0 ≤ (x4_1 : Int) := of_decide_eq_true (by first | (with_reducible assumption) | assumption)
  have q173 : x4_1 < (l0.length : Int) := of_decide_eq_true (by first | (with_reducible assumption) | assumption)
  obtain ⟨ad173, A173_1, c173_1, e173, hx173_0, hx173_1, hl173_1, hi173_1⟩ := at_T69 HR0.out x4_1 p173 q173
  cases e173
  have HR173_1 := Aside0.mk hi173_1
  have HC173_1 := Aside0.mk hl173_1
  clear hi173_1 hl173_1
  replace p173 := eq_true p173
  replace q173 := eq_true q173
  have p174 : 0 ≤ (x4_1 : Int) := of_decide_eq_true (by first | (with_reducible assumption) | assumption)
  have q174 : x4_1 < (l0.length : Int) := of_decide_eq_true (by first | (with_reducible assumption) | assumption)
  obtain ⟨ad174, A174_1, c174_1, e174, hx174_0, hx174_1, hl174_1, hi174_1⟩ := at_T69 HR0.out x4_1 p174 q174
  obtain rfl : ad173 = ad174 := (by injection e174)
  have HR174_1 := Aside0.mk hi174_1
  have HC174_1 := Aside0.mk hl174_1
  clear hi174_1 hl174_1
  replace p174 := eq_true p174
  replace q174 := eq_true q174
  have ea_ := Option.some.inj (hx173_1.symm.trans hx174_1)
  injection ea_ with ea_ en_ ec_
  subst ea_
  subst ec_
  clear en_
  go_wp2
  go_meet
  case rel => exact ⟨_, (decide ((((rd_T69 l0 x4_1).f1).length : Int) > 255)), (by first | rfl | (simp; done) | (simp [*]; done)), H', ⟨by have := HK1.out; first | omega | exact Nat.le_refl _⟩, by repeat (first | exact Drawn0.refl _ | apply Drawn0.step)⟩
 case rest =>
  clear HC3
  try clear c1
  try clear p1
  try clear q1
  try clear hx1
  try clear c2
  try clear c2b0
  try clear p2
  try clear c4
  try clear c4b0
  try clear c5
  try clear c5b0
  try clear c5b1
  try clear hx173_0
  try clear hx173_1
  try clear hx174_0
  try clear hx174_1
  try clear p173
  try clear p174
  try clear q173
  try clear q174
  obtain ⟨kq, x27_2, rfl, HA, HJ2, ⟨mc2, rfl⟩⟩ := hcut
  cases kq with
  | zero => exact absurd HA.out (by simp [interregnumref05_GoodPath.j1])
  | succ kj2 =>
  have H := HA.out
  clear HA
  simp only [interregnumref05_GoodPath.j1] at H
  by_cases c6 : x27_2 = true
  ·subst c6
   have H1 : (some false) = some r := by rw [if_pos rfl] at H; exact H
   clear H
   have H := H1
   clear H1
   obtain rfl := Option.some.inj H
   go_wp2
   go_ret
   exact ⟨by first | rfl | (simp; done) | (simp [*]; done), by repeat (first | exact Drawn0.refl _ | apply Drawn0.step)⟩
  replace c6 := Bool.eq_false_iff.mpr c6
  subst c6
  have H1 : (interregnumref05_GoodPath.l1 kj2 l0 x3_1 x4_1 0) = some r := by rw [if_neg (show ¬ (false = true) by decide)] at H; exact H
  clear H
  have H := H1
  clear H1
  have H' := Aside0.mk H
  clear H
  go_wp2
  go_loopg [3, 5] kj2 (fun kq v3 v5 w' => ∃ (x3_3 : Int) (x5_3 : Int), v3 = .int .i64 x3_3 ∧ v5 = .int .i64 x5_3 ∧ Aside0 (interregnumref05_GoodPath.l1 kq l0 x3_3 x4_1 x5_3 = some r) ∧ Aside0 (kq ≤ kj2) ∧ Drawn0 w w')
  case atStart => exact ⟨(x3_1), (0), (by first | rfl | (simp; done) | (simp [*]; done)), (by first | rfl | (simp; done) | (simp [*]; done)), H', ⟨Nat.le_refl _⟩, by repeat (first | exact Drawn0.refl _ | apply Drawn0.step)⟩
  clear H'
  try clear c1
  try clear p1
  try clear q1
  try clear hx1
  try clear c2
  try clear c2b0
  try clear p2
  try clear c4
  try clear c4b0
  try clear c5
  try clear c5b0
  try clear c5b1
  try clear c6
  try clear hx173_0
  try clear hx173_1
  try clear hx174_0
  try clear hx174_1
  try clear p1
  try clear p173
  try clear p174
  try clear p2
  try clear q1
  try clear q173
  try clear q174
  obtain ⟨x3_3, x5_3, rfl, rfl, HA, HK3, ⟨m3, rfl⟩⟩ := hrel
  cases gk with
  | zero => exact absurd HA.out (by simp [interregnumref05_GoodPath.l1])
  | succ k3 =>
  have H := HA.out
  clear HA
  simp only [interregnumref05_GoodPath.l1] at H
  by_cases c7 : 0 ≤ x4_1
  rotate_left
  ·rw [if_neg c7] at H
   exact absurd H (by simp)
  rw [if_pos c7] at H
  have c7b0 : decide (0 ≤ x4_1) = true := decide_eq_true c7
  clear c7
  by_cases c8 : x4_1 < (l0.length : Int)
  rotate_left
  ·rw [if_neg c8] at H
   exact absurd H (by simp)
  rw [if_pos c8] at H
  have c8b0 : decide (x4_1 < (l0.length : Int)) = true := decide_eq_true c8
  clear c8
  by_cases c9 : x5_3 < (((rd_T69 l0 x4_1).f1).length : Int)
  rotate_left
  ·rw [if_neg c9] at H
   have c9b0 : decide (x5_3 < (((rd_T69 l0 x4_1).f1).length : Int)) = false := decide_eq_false c9
   clear c9
   have H' := Aside0.mk H
   clear H
   have p175 : 0 ≤ (x4_1 : Int) := of_decide_eq_true (by first | (with_reducible assumption) | assumption)
   have q175 : x4_1 < (l0.length : Int) := of_decide_eq_true (by first | (with_reducible assumption) | assumption)
   obtain ⟨ad175, A175_1, c175_1, e175, hx175_0, hx175_1, hl175_1, hi175_1⟩ := at_T69 HR0.out x4_1 p175 q175
   cases e175
   have HR175_1 := Aside0.mk hi175_1
   have HC175_1 := Aside0.mk hl175_1
   clear hi175_1 hl175_1
   replace p175 := eq_true p175
   replace q175 := eq_true q175
   go_wp2
   go_roundg k3
   case measure => have := HK1.out; have := HJ2.out; have := HK3.out; omega
   case rel => exact ⟨(x3_3), (wrap64 (x4_1 + 1)), (by first | rfl | (simp; done) | (simp [*]; done)), (by first | rfl | (simp; done) | (simp [*]; done)), H', ⟨by have := HK1.out; have := HJ2.out; have := HK3.out; omega⟩, by repeat (first | exact Drawn0.refl _ | apply Drawn0.step)⟩
  rw [if_pos c9] at H
  have c9b0 : decide (x5_3 < (((rd_T69 l0 x4_1).f1).length : Int)) = true := decide_eq_true c9
  clear c9
  by_cases c10 : 0 ≤ x5_3
  rotate_left
  ·rw [if_neg c10] at H
   exact absurd H (by simp)
  rw [if_pos c10] at H
  have c10b0 : decide (0 ≤ x5_3) = true := decide_eq_true c10
  clear c10
  by_cases c11 : (rd ((rd_T69 l0 x4_1).f1) x5_3) < 1
  ·rw [if_pos c11] at H
   have c11b0 : decide ((rd ((rd_T69 l0 x4_1).f1) x5_3) < 1) = true := decide_eq_true c11
   clear c11
   obtain rfl := Option.some.inj H
   have p175 : 0 ≤ (x4_1 : Int) := of_decide_eq_true (by first | (with_reducible assumption) | assumption)
   have q175 : x4_1 < (l0.length : Int) := of_decide_eq_true (by first | (with_reducible assumption) | assumption)
   obtain ⟨ad175, A175_1, c175_1, e175, hx175_0, hx175_1, hl175_1, hi175_1⟩ := at_T69 HR0.out x4_1 p175 q175
   cases e175
   have HR175_1 := Aside0.mk hi175_1
   have HC175_1 := Aside0.mk hl175_1
   clear hi175_1 hl175_1
   replace p175 := eq_true p175
   replace q175 := eq_true q175
   have p176 : 0 ≤ (x4_1 : Int) := of_decide_eq_true (by first | (with_reducible assumption) | assumption)
   have q176 : x4_1 < (l0.length : Int) := of_decide_eq_true (by first | (with_reducible assumption) | assumption)
   obtain ⟨ad176, A176_1, c176_1, e176, hx176_0, hx176_1, hl176_1, hi176_1⟩ := at_T69 HR0.out x4_1 p176 q176
   obtain rfl : ad175 = ad176 := (by injection e176)
   have HR176_1 := Aside0.mk hi176_1
   have HC176_1 := Aside0.mk hl176_1
   clear hi176_1 hl176_1
   replace p176 := eq_true p176
   replace q176 := eq_true q176
   have ea_ := Option.some.inj (hx175_1.symm.trans hx176_1)
   injection ea_ with ea_ en_ ec_
   subst ea_
   subst ec_
   clear en_
   have p177 : 0 ≤ (x5_3 : Int) := of_decide_eq_true (by first | (with_reducible assumption) | assumption)
   have q177 : x5_3 < (((rd_T69 l0 x4_1).f1).length : Int) := of_decide_eq_true (by first | (with_reducible assumption) | assumption)
   obtain ⟨ad177, e177, hx177_0⟩ := Kd.at_int HR176_1.out x5_3 p177 q177
   cases e177
   replace p177 := eq_true p177
   replace q177 := eq_true q177
   go_wp2
   go_ret
   exact ⟨by first | rfl | (simp; done) | (simp [*]; done), by repeat (first | exact Drawn0.refl _ | apply Drawn0.step)⟩
  rw [if_neg c11] at H
  have c11b0 : decide ((rd ((rd_T69 l0 x4_1).f1) x5_3) < 1) = false := decide_eq_false c11
  clear c11
  by_cases c12 : (rd ((rd_T69 l0 x4_1).f1) x5_3) > 4294967295
  ·rw [if_pos c12] at H
   have c12b0 : decide (4294967295 < (rd ((rd_T69 l0 x4_1).f1) x5_3)) = true := decide_eq_true c12
   clear c12
   obtain rfl := Option.some.inj H
   have p175 : 0 ≤ (x4_1 : Int) := of_decide_eq_true (by first | (with_reducible assumption) | assumption)
   have q175 : x4_1 < (l0.length : Int) := of_decide_eq_true (by first | (with_reducible assumption) | assumption)
   obtain ⟨ad175, A175_1, c175_1, e175, hx175_0, hx175_1, hl175_1, hi175_1⟩ := at_T69 HR0.out x4_1 p175 q175
   cases e175
   have HR175_1 := Aside0.mk hi175_1
   have HC175_1 := Aside0.mk hl175_1
   clear hi175_1 hl175_1
   replace p175 := eq_true p175
   replace q175 := eq_true q175
   have p176 : 0 ≤ (x4_1 : Int) := of_decide_eq_true (by first | (with_reducible assumption) | assumption)
   have q176 : x4_1 < (l0.length : Int) := of_decide_eq_true (by first | (with_reducible assumption) | assumption)
   obtain ⟨ad176, A176_1, c176_1, e176, hx176_0, hx176_1, hl176_1, hi176_1⟩ := at_T69 HR0.out x4_1 p176 q176
   obtain rfl : ad175 = ad176 := (by injection e176)
   have HR176_1 := Aside0.mk hi176_1
   have HC176_1 := Aside0.mk hl176_1
   clear hi176_1 hl176_1
   replace p176 := eq_true p176
   replace q176 := eq_true q176
   have ea_ := Option.some.inj (hx175_1.symm.trans hx176_1)
   injection ea_ with ea_ en_ ec_
   subst ea_
   subst ec_
   clear en_
   have p177 : 0 ≤ (x5_3 : Int) := of_decide_eq_true (by first | (with_reducible assumption) | assumption)
   have q177 : x5_3 < (((rd_T69 l0 x4_1).f1).length : Int) := of_decide_eq_true (by first | (with_reducible assumption) | assumption)
   obtain ⟨ad177, e177, hx177_0⟩ := Kd.at_int HR176_1.out x5_3 p177 q177
   cases e177
   replace p177 := eq_true p177
   replace q177 := eq_true q177
   have p178 : 0 ≤ (x4_1 : Int) := of_decide_eq_true (by first | (with_reducible assumption) | assumption)
   have q178 : x4_1 < (l0.length : Int) := of_decide_eq_true (by first | (with_reducible assumption) | assumption)
   obtain ⟨ad178, A178_1, c178_1, e178, hx178_0, hx178_1, hl178_1, hi178_1⟩ := at_T69 HR0.out x4_1 p178 q178
   obtain rfl : ad175 = ad178 := (by injection e178)
   have HR178_1 := Aside0.mk hi178_1
   have HC178_1 := Aside0.mk hl178_1
   clear hi178_1 hl178_1
   replace p178 := eq_true p178
   replace q178 := eq_true q178
   have ea_ := Option.some.inj (hx175_1.symm.trans hx178_1)
   injection ea_ with ea_ en_ ec_
   subst ea_
   subst ec_
   clear en_
   have p179 : 0 ≤ (x5_3 : Int) := of_decide_eq_true (by first | (with_reducible assumption) | assumption)
   have q179 : x5_3 < (((rd_T69 l0 x4_1).f1).length : Int) := of_decide_eq_true (by first | (with_reducible assumption) | assumption)
   obtain ⟨ad179, e179, hx179_0⟩ := Kd.at_int HR178_1.out x5_3 p179 q179
   cases e179
   replace p179 := eq_true p179
   replace q179 := eq_true q179
   go_wp2
   go_ret
   exact ⟨by first | rfl | (simp; done) | (simp [*]; done), by repeat (first | exact Drawn0.refl _ | apply Drawn0.step)⟩
  rw [if_neg c12] at H
  have c12b0 : decide (4294967295 < (rd ((rd_T69 l0 x4_1).f1) x5_3)) = false := decide_eq_false c12
  clear c12
  have H' := Aside0.mk H
  clear H
  have p175 : 0 ≤ (x4_1 : Int) := of_decide_eq_true (by first | (with_reducible assumption) | assumption)
  have q175 : x4_1 < (l0.length : Int) := of_decide_eq_true (by first | (with_reducible assumption) | assumption)
  obtain ⟨ad175, A175_1, c175_1, e175, hx175_0, hx175_1, hl175_1, hi175_1⟩ := at_T69 HR0.out x4_1 p175 q175
  cases e175
  have HR175_1 := Aside0.mk hi175_1
  have HC175_1 := Aside0.mk hl175_1
  clear hi175_1 hl175_1
  replace p175 := eq_true p175
  replace q175 := eq_true q175
  have p176 : 0 ≤ (x4_1 : Int) := of_decide_eq_true (by first | (with_reducible assumption) | assumption)
  have q176 : x4_1 < (l0.length : Int) := of_decide_eq_true (by first | (with_reducible assumption) | assumption)
  obtain ⟨ad176, A176_1, c176_1, e176, hx176_0, hx176_1, hl176_1, hi176_1⟩ := at_T69 HR0.out x4_1 p176 q176
  obtain rfl : ad175 = ad176 := (by injection e176)
  have HR176_1 := Aside0.mk hi176_1
  have HC176_1 := Aside0.mk hl176_1
  clear hi176_1 hl176_1
  replace p176 := eq_true p176
  replace q176 := eq_true q176
  have ea_ := Option.some.inj (hx175_1.symm.trans hx176_1)
  injection ea_ with ea_ en_ ec_
  subst ea_
  subst ec_
  clear en_
  have p177 : 0 ≤ (x5_3 : Int) := of_decide_eq_true (by first | (with_reducible assumption) | assumption)
  have q177 : x5_3 < (((rd_T69 l0 x4_1).f1).length : Int) := of_decide_eq_true (by first | (with_reducible assumption) | assumption)
  obtain ⟨ad177, e177, hx177_0⟩ := Kd.at_int HR176_1.out x5_3 p177 q177
  cases e177
  replace p177 := eq_true p177
  replace q177 := eq_true q177
  have p178 : 0 ≤ (x4_1 : Int) := of_decide_eq_true (by first | (with_reducible assumption) | assumption)
  have q178 : x4_1 < (l0.length : Int) := of_decide_eq_true (by first | (with_reducible assumption) | assumption)
  obtain ⟨ad178, A178_1, c178_1, e178, hx178_0, hx178_1, hl178_1, hi178_1⟩ := at_T69 HR0.out x4_1 p178 q178
  obtain rfl : ad175 = ad178 := (by injection e178)
  have HR178_1 := Aside0.mk hi178_1
  have HC178_1 := Aside0.mk hl178_1
  clear hi178_1 hl178_1
  replace p178 := eq_true p178
  replace q178 := eq_true q178
  have ea_ := Option.some.inj (hx175_1.symm.trans hx178_1)
  injection ea_ with ea_ en_ ec_
  subst ea_
  subst ec_
  clear en_
  have p179 : 0 ≤ (x5_3 : Int) := of_decide_eq_true (by first | (with_reducible assumption) | assumption)
  have q179 : x5_3 < (((rd_T69 l0 x4_1).f1).length : Int) := of_decide_eq_true (by first | (with_reducible assumption) | assumption)
  obtain ⟨ad179, e179, hx179_0⟩ := Kd.at_int HR178_1.out x5_3 p179 q179
  cases e179
  replace p179 := eq_true p179
  replace q179 := eq_true q179
  go_wp2
  go_roundg k3
  case measure => have := HK1.out; have := HJ2.out; have := HK3.out; omega
  case rel => exact ⟨(wrap64 (x3_3 + 1)), (wrap64 (x5_3 + 1)), (by first | rfl | (simp; done) | (simp [*]; done)), (by first | rfl | (simp; done) | (simp [*]; done)), H', ⟨by have := HK1.out; have := HJ2.out; have := HK3.out; omega⟩, by repeat (first | exact Drawn0.refl _ | apply Drawn0.step)⟩

end Go.Proofs.Ytjdebhkdbdbepaa.PExportTells
