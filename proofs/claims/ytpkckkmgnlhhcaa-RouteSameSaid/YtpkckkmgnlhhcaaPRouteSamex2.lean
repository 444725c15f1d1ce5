-- Lean text by a program of this repo (wip/tools/printx.py), out of Lean's own print of the translation
import Derived.Test.YtpkckkmgnlhhcaaPRouteSamex0
namespace Go.Proofs.Ytpkckkmgnlhhcaa.PRouteSame
open Go.RowKit Go.Proofs.YtpkckkmgnlhhcaaW.PrintWords Go.Proofs.YtpkckkmgnlhhcaaW.PrintLast Go.Proofs.YtpkckkmgnlhhcaaW.PrintMore
attribute [local go_sem] max2_int min2_int max_two min_two max_three min_three max_four min_four   -- for this text's walks alone
set_option linter.unusedVariables false
set_option linter.unusedSimpArgs false

/-! ### interregnumref05_HasAS: function 27 -/
mutual
def interregnumref05_HasAS.l0 : Nat → List (S38) → Int → Int → Option (Bool)
  | 0, _, _, _ => none
  | k + 1, x0, x1, x5 => if x5 < (x0.length : Int) then (interregnumref05_HasAS.l1 k x0 x1 x5 0) else (some false)
def interregnumref05_HasAS.l1 : Nat → List (S38) → Int → Int → Int → Option (Bool)
  | 0, _, _, _, _ => none
  | k + 1, x0, x1, x5, x6 => if 0 ≤ x5 then (if x5 < (x0.length : Int) then (if x6 < (((rd_T38 x0 x5).f1).length : Int) then (if 0 ≤ x6 then (if (rd ((rd_T38 x0 x5).f1) x6) = x1 then (some true) else (interregnumref05_HasAS.l1 k x0 x1 x5 (wrap64 (x6 + 1)))) else (none)) else (interregnumref05_HasAS.l0 k x0 x1 (wrap64 (x5 + 1)))) else (none)) else (none)
end
def interregnumref05_HasAS.f (k : Nat) (l0 : List (S38)) (a1 : Int) : Option (Bool) := interregnumref05_HasAS.l0 k l0 a1 0
theorem interregnumref05_HasAS.mono_l : ∀ k, (∀ y0 y1 y2, LeO (interregnumref05_HasAS.l0 k y0 y1 y2) (interregnumref05_HasAS.l0 (k + 1) y0 y1 y2)) ∧ (∀ y0 y1 y2 y3, LeO (interregnumref05_HasAS.l1 k y0 y1 y2 y3) (interregnumref05_HasAS.l1 (k + 1) y0 y1 y2 y3))
  | 0 => ⟨fun _ _ _ r h => by simp [interregnumref05_HasAS.l0] at h, fun _ _ _ _ r h => by simp [interregnumref05_HasAS.l1] at h⟩
  | k + 1 => by
    obtain ⟨ih0, ih1⟩ := interregnumref05_HasAS.mono_l k
    refine ⟨?_, ?_⟩
    · intro y0 y1 y2
      unfold interregnumref05_HasAS.l0
      repeat' first
      | (with_reducible exact ih0 _ _ _)
      | (with_reducible exact ih1 _ _ _ _)
      | (with_reducible exact LeO.refl _)
      | (with_reducible exact LeO.none _)
      | (with_reducible refine LeO.ite ?_ ?_)
      | (with_reducible refine LeO.bind ?_ (fun _ => ?_))
      | exact ih0 _ _ _
      | exact ih1 _ _ _ _
      | exact LeO.none _
      | refine LeO.ite ?_ ?_
      | refine LeO.bind ?_ (fun _ => ?_)
    · intro y0 y1 y2 y3
      unfold interregnumref05_HasAS.l1
      repeat' first
      | (with_reducible exact ih0 _ _ _)
      | (with_reducible exact ih1 _ _ _ _)
      | (with_reducible exact LeO.refl _)
      | (with_reducible exact LeO.none _)
      | (with_reducible refine LeO.ite ?_ ?_)
      | (with_reducible refine LeO.bind ?_ (fun _ => ?_))
      | exact ih0 _ _ _
      | exact ih1 _ _ _ _
      | exact LeO.none _
      | refine LeO.ite ?_ ?_
      | refine LeO.bind ?_ (fun _ => ?_)
theorem interregnumref05_HasAS.mono : ∀ a0 a1 k, LeO (interregnumref05_HasAS.f k a0 a1) (interregnumref05_HasAS.f (k + 1) a0 a1) := by
  intro a0 a1 k
  obtain ⟨ih0, ih1⟩ := interregnumref05_HasAS.mono_l k
  unfold interregnumref05_HasAS.f
  repeat' first
      | (with_reducible exact ih0 _ _ _)
      | (with_reducible exact ih1 _ _ _ _)
      | (with_reducible exact LeO.refl _)
      | (with_reducible exact LeO.none _)
      | (with_reducible refine LeO.ite ?_ ?_)
      | (with_reducible refine LeO.bind ?_ (fun _ => ?_))
      | exact ih0 _ _ _
      | exact ih1 _ _ _ _
      | exact LeO.none _
      | refine LeO.ite ?_ ?_
      | refine LeO.bind ?_ (fun _ => ?_)
set_option maxHeartbeats 8000000 in
set_option maxRecDepth 100000 in
theorem interregnumref05_HasAS.calls (k : Nat) (A0 : Option Addr) (c0 : Nat) (l0 : List (S38)) (a1 : Int) (r : Bool) (w : World) (hr0 : Kd.C k38 w A0 l0.length l0) (hc0 : l0.length ≤ c0) (h : interregnumref05_HasAS.f k l0 a1 = some r) :
    Calls Try.prog 27 #[.slice A0 l0.length c0, .int .i64 a1] w fun e w' => e = .returned (.bool r) ∧ Drawn0 w w' := by
  have HR0 := Aside0.mk hr0
  have HC0 := Aside0.mk hc0
  clear hr0 hc0
  have H : (interregnumref05_HasAS.l0 k l0 a1 0) = some r := h
  clear h
  have H' := Aside0.mk H
  clear H
  go_enter Try.func27, Try.ntmps27
  go_wp2
  go_loopg [5] k (fun kq v5 w' => ∃ (x5_1 : Int), v5 = .int .i64 x5_1 ∧ Aside0 (interregnumref05_HasAS.l0 kq l0 a1 x5_1 = some r) ∧ Aside0 (kq ≤ k) ∧ Drawn0 w w')
  case atStart => exact ⟨(0), (by first | rfl | (simp; done) | (simp [*]; done)), H', ⟨Nat.le_refl _⟩, by repeat (first | exact Drawn0.refl _ | apply Drawn0.step)⟩
  case round =>
    clear H'
    try clear c2
    try clear p2
    obtain ⟨x5_1, rfl, HA, HK1, ⟨m1, rfl⟩⟩ := hrel
    cases gk with
    | zero => exact absurd HA.out (by simp [interregnumref05_HasAS.l0])
    | succ k1 =>
      have H := HA.out
      clear HA
      simp only [interregnumref05_HasAS.l0] at H
      by_cases c3 : x5_1 < (l0.length : Int)
      · rw [if_pos c3] at H
        have c3b0 : decide (x5_1 < (l0.length : Int)) = true := decide_eq_true c3
        clear c3
        have H' := Aside0.mk H
        clear H
        go_wp2
        go_loopg [6] k1 (fun kq v6 w' => ∃ (x6_2 : Int), v6 = .int .i64 x6_2 ∧ Aside0 (interregnumref05_HasAS.l1 kq l0 a1 x5_1 x6_2 = some r) ∧ Aside0 (kq ≤ k1) ∧ Drawn0 w w')
        case atStart => exact ⟨(0), (by first | rfl | (simp; done) | (simp [*]; done)), H', ⟨Nat.le_refl _⟩, by repeat (first | exact Drawn0.refl _ | apply Drawn0.step)⟩
        case round =>
          clear H'
          try clear c2
          try clear p2
          try clear c3
          try clear c3b0
          try clear p2
          obtain ⟨x6_2, rfl, HA, HK2, ⟨m2, rfl⟩⟩ := hrel
          cases gk with
          | zero => exact absurd HA.out (by simp [interregnumref05_HasAS.l1])
          | succ k2 =>
            have H := HA.out
            clear HA
            simp only [interregnumref05_HasAS.l1] at H
            by_cases c4 : 0 ≤ x5_1
            · rw [if_pos c4] at H
              have c4b0 : decide (0 ≤ x5_1) = true := decide_eq_true c4
              clear c4
              by_cases c5 : x5_1 < (l0.length : Int)
              · rw [if_pos c5] at H
                have c5b0 : decide (x5_1 < (l0.length : Int)) = true := decide_eq_true c5
                clear c5
                by_cases c6 : x6_2 < (((rd_T38 l0 x5_1).f1).length : Int)
                · rw [if_pos c6] at H
                  have c6b0 : decide (x6_2 < (((rd_T38 l0 x5_1).f1).length : Int)) = true := decide_eq_true c6
                  clear c6
                  by_cases c7 : 0 ≤ x6_2
                  · rw [if_pos c7] at H
                    have c7b0 : decide (0 ≤ x6_2) = true := decide_eq_true c7
                    clear c7
                    by_cases c8 : (rd ((rd_T38 l0 x5_1).f1) x6_2) = a1
                    · rw [if_pos c8] at H
                      have c8b0 : ((rd ((rd_T38 l0 x5_1).f1) x6_2) == a1) = true := beq_iff_eq.mpr c8
                      have c8b1 : ((rd ((rd_T38 l0 x5_1).f1) x6_2) != a1) = false := bne_eq_false_iff_eq.mpr c8
                      clear c8
                      obtain rfl := Option.some.inj H
                      have p101 : 0 ≤ (x5_1 : Int) := of_decide_eq_true (by first | (with_reducible assumption) | assumption)
                      have q101 : x5_1 < (l0.length : Int) := of_decide_eq_true (by first | (with_reducible assumption) | assumption)
                      obtain ⟨ad101, A101_1, c101_1, e101, hx101_0, hx101_1, hl101_1, hi101_1⟩ := at_T38 HR0.out x5_1 p101 q101
                      cases e101
                      have HR101_1 := Aside0.mk hi101_1
                      have HC101_1 := Aside0.mk hl101_1
                      clear hi101_1 hl101_1
                      replace p101 := eq_true p101
                      replace q101 := eq_true q101
                      have p102 : 0 ≤ (x5_1 : Int) := of_decide_eq_true (by first | (with_reducible assumption) | assumption)
                      have q102 : x5_1 < (l0.length : Int) := of_decide_eq_true (by first | (with_reducible assumption) | assumption)
                      obtain ⟨ad102, A102_1, c102_1, e102, hx102_0, hx102_1, hl102_1, hi102_1⟩ := at_T38 HR0.out x5_1 p102 q102
                      obtain rfl : ad101 = ad102 := (by injection e102)
                      have HR102_1 := Aside0.mk hi102_1
                      have HC102_1 := Aside0.mk hl102_1
                      clear hi102_1 hl102_1
                      replace p102 := eq_true p102
                      replace q102 := eq_true q102
                      have ea_ := Option.some.inj (hx101_1.symm.trans hx102_1)
                      injection ea_ with ea_ en_ ec_
                      subst ea_
                      subst ec_
                      clear en_
                      have p103 : 0 ≤ (x6_2 : Int) := of_decide_eq_true (by first | (with_reducible assumption) | assumption)
                      have q103 : x6_2 < (((rd_T38 l0 x5_1).f1).length : Int) := of_decide_eq_true (by first | (with_reducible assumption) | assumption)
                      obtain ⟨ad103, e103, hx103_0⟩ := Kd.at_int HR102_1.out x6_2 p103 q103
                      cases e103
                      replace p103 := eq_true p103
                      replace q103 := eq_true q103
                      go_wp2
                      go_ret
                      exact ⟨by first | rfl | (simp; done) | (simp [*]; done), by repeat (first | exact Drawn0.refl _ | apply Drawn0.step)⟩
                    · rw [if_neg c8] at H
                      have c8b0 : ((rd ((rd_T38 l0 x5_1).f1) x6_2) == a1) = false := beq_eq_false_iff_ne.mpr c8
                      have c8b1 : ((rd ((rd_T38 l0 x5_1).f1) x6_2) != a1) = true := bne_iff_ne.mpr c8
                      have H' := Aside0.mk H
                      clear H
                      have p101 : 0 ≤ (x5_1 : Int) := of_decide_eq_true (by first | (with_reducible assumption) | assumption)
                      have q101 : x5_1 < (l0.length : Int) := of_decide_eq_true (by first | (with_reducible assumption) | assumption)
                      obtain ⟨ad101, A101_1, c101_1, e101, hx101_0, hx101_1, hl101_1, hi101_1⟩ := at_T38 HR0.out x5_1 p101 q101
                      cases e101
                      have HR101_1 := Aside0.mk hi101_1
                      have HC101_1 := Aside0.mk hl101_1
                      clear hi101_1 hl101_1
                      replace p101 := eq_true p101
                      replace q101 := eq_true q101
                      have p102 : 0 ≤ (x5_1 : Int) := of_decide_eq_true (by first | (with_reducible assumption) | assumption)
                      have q102 : x5_1 < (l0.length : Int) := of_decide_eq_true (by first | (with_reducible assumption) | assumption)
                      obtain ⟨ad102, A102_1, c102_1, e102, hx102_0, hx102_1, hl102_1, hi102_1⟩ := at_T38 HR0.out x5_1 p102 q102
                      obtain rfl : ad101 = ad102 := (by injection e102)
                      have HR102_1 := Aside0.mk hi102_1
                      have HC102_1 := Aside0.mk hl102_1
                      clear hi102_1 hl102_1
                      replace p102 := eq_true p102
                      replace q102 := eq_true q102
                      have ea_ := Option.some.inj (hx101_1.symm.trans hx102_1)
                      injection ea_ with ea_ en_ ec_
                      subst ea_
                      subst ec_
                      clear en_
                      have p103 : 0 ≤ (x6_2 : Int) := of_decide_eq_true (by first | (with_reducible assumption) | assumption)
                      have q103 : x6_2 < (((rd_T38 l0 x5_1).f1).length : Int) := of_decide_eq_true (by first | (with_reducible assumption) | assumption)
                      obtain ⟨ad103, e103, hx103_0⟩ := Kd.at_int HR102_1.out x6_2 p103 q103
                      cases e103
                      replace p103 := eq_true p103
                      replace q103 := eq_true q103
                      go_wp2
                      go_roundg k2
                      case measure => have := HK1.out; have := HK2.out; omega
                      case rel => exact ⟨(wrap64 (x6_2 + 1)), (by first | rfl | (simp; done) | (simp [*]; done)), H', ⟨by have := HK1.out; have := HK2.out; omega⟩, by repeat (first | exact Drawn0.refl _ | apply Drawn0.step)⟩
                  · rw [if_neg c7] at H
                    exact absurd H (by simp)
                · rw [if_neg c6] at H
                  have c6b0 : decide (x6_2 < (((rd_T38 l0 x5_1).f1).length : Int)) = false := decide_eq_false c6
                  clear c6
                  have H' := Aside0.mk H
                  clear H
                  have p101 : 0 ≤ (x5_1 : Int) := of_decide_eq_true (by first | (with_reducible assumption) | assumption)
                  have q101 : x5_1 < (l0.length : Int) := of_decide_eq_true (by first | (with_reducible assumption) | assumption)
                  obtain ⟨ad101, A101_1, c101_1, e101, hx101_0, hx101_1, hl101_1, hi101_1⟩ := at_T38 HR0.out x5_1 p101 q101
                  cases e101
                  have HR101_1 := Aside0.mk hi101_1
                  have HC101_1 := Aside0.mk hl101_1
                  clear hi101_1 hl101_1
                  replace p101 := eq_true p101
                  replace q101 := eq_true q101
                  go_wp2
                  go_roundg k2
                  case measure => have := HK1.out; have := HK2.out; omega
                  case rel => exact ⟨(wrap64 (x5_1 + 1)), (by first | rfl | (simp; done) | (simp [*]; done)), H', ⟨by have := HK1.out; have := HK2.out; omega⟩, by repeat (first | exact Drawn0.refl _ | apply Drawn0.step)⟩
              · rw [if_neg c5] at H
                exact absurd H (by simp)
            · rw [if_neg c4] at H
              exact absurd H (by simp)
      · rw [if_neg c3] at H
        have c3b0 : decide (x5_1 < (l0.length : Int)) = false := decide_eq_false c3
        clear c3
        obtain rfl := Option.some.inj H
        go_wp2
        go_ret
        exact ⟨by first | rfl | (simp; done) | (simp [*]; done), by repeat (first | exact Drawn0.refl _ | apply Drawn0.step)⟩

/-! ### interregnumlaw13_small: function 28 -/
mutual
def interregnumlaw13_small.j1 : Nat → Int → Int → List (S38) → Int → Int → Int → List Int → List (S58) → Option (Bool)
  | 0, _, _, _, _, _, _, _, _ => none
  | k + 1, x4, x106000, x106001, x106002, x106003, x106004, x106005, x106006 => interregnumlaw13_small.l1 k x4 0 x106000 x106001 x106002 x106003 x106004 x106005 x106006
def interregnumlaw13_small.l1 : Nat → Int → Int → Int → List (S38) → Int → Int → Int → List Int → List (S58) → Option (Bool)
  | 0, _, _, _, _, _, _, _, _, _ => none
  | k + 1, x4, x6, x106000, x106001, x106002, x106003, x106004, x106005, x106006 => if x6 < (x106006.length : Int) then (if x4 < 3000 then (if 0 ≤ x6 then (interregnumlaw13_small.l1 k (wrap64 (x4 + (((rd_T58 x106006 x6).f2).length : Int))) (wrap64 (x6 + 1)) x106000 x106001 x106002 x106003 x106004 x106005 x106006) else (none)) else (some (decide (x4 < 3000)))) else (some (decide (x4 < 3000)))
def interregnumlaw13_small.l0 : Nat → Int → Int → Int → List (S38) → Int → Int → Int → List Int → List (S58) → Option (Bool)
  | 0, _, _, _, _, _, _, _, _, _ => none
  | k + 1, x4, x5, x106000, x106001, x106002, x106003, x106004, x106005, x106006 => if x5 < (x106001.length : Int) then (if x4 < 3000 then (if 0 ≤ x5 then (interregnumlaw13_small.l0 k (wrap64 (x4 + (((rd_T38 x106001 x5).f1).length : Int))) (wrap64 (x5 + 1)) x106000 x106001 x106002 x106003 x106004 x106005 x106006) else (none)) else (interregnumlaw13_small.j1 k x4 x106000 x106001 x106002 x106003 x106004 x106005 x106006)) else (interregnumlaw13_small.j1 k x4 x106000 x106001 x106002 x106003 x106004 x106005 x106006)
end
def interregnumlaw13_small.f (k : Nat) (a0_0 : Int) (a0_1 : Int) (a0_2 : Int) (a0_3 : Int) (l0_4 : List (S38)) (a0_5 : Int) (a0_6 : Int) (a0_7 : Int) (l0_8 : List Int) (l0_9 : List (S58)) (a0_10 : Int) : Option (Bool) := interregnumlaw13_small.l0 k (wrap64 ((wrap64 ((l0_4.length : Int) + (l0_8.length : Int))) + (l0_9.length : Int))) 0 a0_3 l0_4 a0_5 a0_6 a0_7 l0_8 l0_9
theorem interregnumlaw13_small.mono_l : ∀ k, (∀ y0 y1 y2 y3 y4 y5 y6 y7, LeO (interregnumlaw13_small.j1 k y0 y1 y2 y3 y4 y5 y6 y7) (interregnumlaw13_small.j1 (k + 1) y0 y1 y2 y3 y4 y5 y6 y7)) ∧ (∀ y0 y1 y2 y3 y4 y5 y6 y7 y8, LeO (interregnumlaw13_small.l1 k y0 y1 y2 y3 y4 y5 y6 y7 y8) (interregnumlaw13_small.l1 (k + 1) y0 y1 y2 y3 y4 y5 y6 y7 y8)) ∧ (∀ y0 y1 y2 y3 y4 y5 y6 y7 y8, LeO (interregnumlaw13_small.l0 k y0 y1 y2 y3 y4 y5 y6 y7 y8) (interregnumlaw13_small.l0 (k + 1) y0 y1 y2 y3 y4 y5 y6 y7 y8))
  | 0 => ⟨fun _ _ _ _ _ _ _ _ r h => by simp [interregnumlaw13_small.j1] at h, fun _ _ _ _ _ _ _ _ _ r h => by simp [interregnumlaw13_small.l1] at h, fun _ _ _ _ _ _ _ _ _ r h => by simp [interregnumlaw13_small.l0] at h⟩
  | k + 1 => by
    obtain ⟨ih0, ih1, ih2⟩ := interregnumlaw13_small.mono_l k
    refine ⟨?_, ?_, ?_⟩
    · intro y0 y1 y2 y3 y4 y5 y6 y7
      unfold interregnumlaw13_small.j1
      repeat' first
      | (with_reducible exact ih0 _ _ _ _ _ _ _ _)
      | (with_reducible exact ih1 _ _ _ _ _ _ _ _ _)
      | (with_reducible exact ih2 _ _ _ _ _ _ _ _ _)
      | (with_reducible exact LeO.refl _)
      | (with_reducible exact LeO.none _)
      | (with_reducible refine LeO.ite ?_ ?_)
      | (with_reducible refine LeO.bind ?_ (fun _ => ?_))
      | exact ih0 _ _ _ _ _ _ _ _
      | exact ih1 _ _ _ _ _ _ _ _ _
      | exact ih2 _ _ _ _ _ _ _ _ _
      | exact LeO.none _
      | refine LeO.ite ?_ ?_
      | refine LeO.bind ?_ (fun _ => ?_)
    · intro y0 y1 y2 y3 y4 y5 y6 y7 y8
      unfold interregnumlaw13_small.l1
      repeat' first
      | (with_reducible exact ih0 _ _ _ _ _ _ _ _)
      | (with_reducible exact ih1 _ _ _ _ _ _ _ _ _)
      | (with_reducible exact ih2 _ _ _ _ _ _ _ _ _)
      | (with_reducible exact LeO.refl _)
      | (with_reducible exact LeO.none _)
      | (with_reducible refine LeO.ite ?_ ?_)
      | (with_reducible refine LeO.bind ?_ (fun _ => ?_))
      | exact ih0 _ _ _ _ _ _ _ _
      | exact ih1 _ _ _ _ _ _ _ _ _
      | exact ih2 _ _ _ _ _ _ _ _ _
      | exact LeO.none _
      | refine LeO.ite ?_ ?_
      | refine LeO.bind ?_ (fun _ => ?_)
    · intro y0 y1 y2 y3 y4 y5 y6 y7 y8
      unfold interregnumlaw13_small.l0
      repeat' first
      | (with_reducible exact ih0 _ _ _ _ _ _ _ _)
      | (with_reducible exact ih1 _ _ _ _ _ _ _ _ _)
      | (with_reducible exact ih2 _ _ _ _ _ _ _ _ _)
      | (with_reducible exact LeO.refl _)
      | (with_reducible exact LeO.none _)
      | (with_reducible refine LeO.ite ?_ ?_)
      | (with_reducible refine LeO.bind ?_ (fun _ => ?_))
      | exact ih0 _ _ _ _ _ _ _ _
      | exact ih1 _ _ _ _ _ _ _ _ _
      | exact ih2 _ _ _ _ _ _ _ _ _
      | exact LeO.none _
      | refine LeO.ite ?_ ?_
      | refine LeO.bind ?_ (fun _ => ?_)
theorem interregnumlaw13_small.mono : ∀ a0 a1 a2 a3 a4 a5 a6 a7 a8 a9 a10 k, LeO (interregnumlaw13_small.f k a0 a1 a2 a3 a4 a5 a6 a7 a8 a9 a10) (interregnumlaw13_small.f (k + 1) a0 a1 a2 a3 a4 a5 a6 a7 a8 a9 a10) := by
  intro a0 a1 a2 a3 a4 a5 a6 a7 a8 a9 a10 k
  obtain ⟨ih0, ih1, ih2⟩ := interregnumlaw13_small.mono_l k
  unfold interregnumlaw13_small.f
  repeat' first
      | (with_reducible exact ih0 _ _ _ _ _ _ _ _)
      | (with_reducible exact ih1 _ _ _ _ _ _ _ _ _)
      | (with_reducible exact ih2 _ _ _ _ _ _ _ _ _)
      | (with_reducible exact LeO.refl _)
      | (with_reducible exact LeO.none _)
      | (with_reducible refine LeO.ite ?_ ?_)
      | (with_reducible refine LeO.bind ?_ (fun _ => ?_))
      | exact ih0 _ _ _ _ _ _ _ _
      | exact ih1 _ _ _ _ _ _ _ _ _
      | exact ih2 _ _ _ _ _ _ _ _ _
      | exact LeO.none _
      | refine LeO.ite ?_ ?_
      | refine LeO.bind ?_ (fun _ => ?_)
set_option maxHeartbeats 8000000 in
set_option maxRecDepth 100000 in
theorem interregnumlaw13_small.calls (k : Nat) (a0_0 : Int) (a0_1 : Int) (a0_2 : Int) (a0_3 : Int) (A0_4 : Option Addr) (c0_4 : Nat) (l0_4 : List (S38)) (a0_5 : Int) (a0_6 : Int) (a0_7 : Int) (A0_8 : Option Addr) (c0_8 : Nat) (l0_8 : List Int) (A0_9 : Option Addr) (c0_9 : Nat) (l0_9 : List (S58)) (a0_10 : Int) (r : Bool) (w : World) (hr0_4 : Kd.C k38 w A0_4 l0_4.length l0_4) (hc0_4 : l0_4.length ≤ c0_4) (hr0_8 : Kd.C (Kd.int .u32) w A0_8 l0_8.length l0_8) (hc0_8 : l0_8.length ≤ c0_8) (hr0_9 : Kd.C k58 w A0_9 l0_9.length l0_9) (hc0_9 : l0_9.length ≤ c0_9) (h : interregnumlaw13_small.f k a0_0 a0_1 a0_2 a0_3 l0_4 a0_5 a0_6 a0_7 l0_8 l0_9 a0_10 = some r) :
    Calls Try.prog 28 #[.agg #[.int .u32 a0_0, .int .i64 a0_1, .int .i64 a0_2, .int .i64 a0_3, .slice A0_4 l0_4.length c0_4, .int .u32 a0_5, .int .i64 a0_6, .int .i64 a0_7, .slice A0_8 l0_8.length c0_8, .slice A0_9 l0_9.length c0_9, .int .i64 a0_10]] w fun e w' => e = .returned (.bool r) ∧ Below w.heap.size w w' := by
  have hu48 := Try.underlying48
  have hu46 := Try.underlying46
  have HR0_4 := Aside0.mk hr0_4
  have HC0_4 := Aside0.mk hc0_4
  clear hr0_4 hc0_4
  have HR0_8 := Aside0.mk hr0_8
  have HC0_8 := Aside0.mk hc0_8
  clear hr0_8 hc0_8
  have HR0_9 := Aside0.mk hr0_9
  have HC0_9 := Aside0.mk hc0_9
  clear hr0_9 hc0_9
  have HB := Aside0.mk (Below.refl w.heap.size w)
  have H : (interregnumlaw13_small.l0 k (wrap64 ((wrap64 ((l0_4.length : Int) + (l0_8.length : Int))) + (l0_9.length : Int))) 0 a0_3 l0_4 a0_5 a0_6 a0_7 l0_8 l0_9) = some r := h
  clear h
  have HC2 := Aside0.mk H
  clear H
  go_enter Try.func28, Try.ntmps28
  go_upto_block 0 with (first | ((with_reducible refine gate_dst (N := 1) rfl ?_); refine box_event ?hg (N := 1) ?hd (cs := #[.int .u32 a0_0, .int .i64 a0_1, .int .i64 a0_2, .int .i64 a0_3, .slice A0_4 l0_4.length c0_4, .int .u32 a0_5, .int .i64 a0_6, .int .i64 a0_7, .slice A0_8 l0_8.length c0_8, .slice A0_9 l0_9.length c0_9, .int .i64 a0_10]) (t := 48) ?hr ?_; (case hd => rfl); (case hg => rfl); (case hr => first | (go_simp; done) | (go_simp; rfl) | (go_simp; simp [IntKind.wrap_u8, IntKind.wrap_u32]; done)); intro gb104 hg w3 hbox hb; have n0_ := Aside0.mk (below_step (by repeat (first | (with_reducible first | exact HB.out | apply below_alloc | apply pw_below_drewN | apply below_drew1) | exact HB.out)) hb); have n1_ := Aside0.mk (hbox); have n2_ := Aside0.mk ((by rw [hg]; exact (below_size (by repeat (first | (with_reducible first | exact HB.out | apply below_alloc | apply pw_below_drewN | apply below_drew1) | exact HB.out))) : w.heap.size ≤ gb104)); have n3_ := Aside0.mk ((by rw [hg]; exact (below_size (by repeat (first | (with_reducible first | exact HB.out | apply below_alloc | apply pw_below_drewN | apply below_drew1) | exact HB.out))) : w.heap.size ≤ gb104)); clear HB; have HB := n0_; have BK104 := n1_; have GW104 := n2_; have GE104 := n3_; clear n0_ n1_ n2_ n3_; clear hb hbox hg; have hcz4_0 : w3.cell? ⟨gb104, 0, none⟩ = some (.int .u32 a0_0) := (blk_cell BK104.out 0).trans rfl; have hcz4_1 : w3.cell? ⟨gb104, 1, none⟩ = some (.int .i64 a0_1) := (blk_cell BK104.out 1).trans rfl; have hcz4_2 : w3.cell? ⟨gb104, 2, none⟩ = some (.int .i64 a0_2) := (blk_cell BK104.out 2).trans rfl; have hcz4_3 : w3.cell? ⟨gb104, 3, none⟩ = some (.int .i64 a0_3) := (blk_cell BK104.out 3).trans rfl; have hcz4_4 : w3.cell? ⟨gb104, 4, none⟩ = some (.slice A0_4 l0_4.length c0_4) := (blk_cell BK104.out 4).trans rfl; have hcz4_5 : w3.cell? ⟨gb104, 5, none⟩ = some (.int .u32 a0_5) := (blk_cell BK104.out 5).trans rfl; have hcz4_6 : w3.cell? ⟨gb104, 6, none⟩ = some (.int .i64 a0_6) := (blk_cell BK104.out 6).trans rfl; have hcz4_7 : w3.cell? ⟨gb104, 7, none⟩ = some (.int .i64 a0_7) := (blk_cell BK104.out 7).trans rfl; have hcz4_8 : w3.cell? ⟨gb104, 8, none⟩ = some (.slice A0_8 l0_8.length c0_8) := (blk_cell BK104.out 8).trans rfl; have hcz4_9 : w3.cell? ⟨gb104, 9, none⟩ = some (.slice A0_9 l0_9.length c0_9) := (blk_cell BK104.out 9).trans rfl; have hcz4_10 : w3.cell? ⟨gb104, 10, none⟩ = some (.int .i64 a0_10) := (blk_cell BK104.out 10).trans rfl; have hfz4_0 := blk_frozen BK104.out 0; have hfz4_1 := blk_frozen BK104.out 1; have hfz4_2 := blk_frozen BK104.out 2; have hfz4_3 := blk_frozen BK104.out 3; have hfz4_4 := blk_frozen BK104.out 4; have hfz4_5 := blk_frozen BK104.out 5; have hfz4_6 := blk_frozen BK104.out 6; have hfz4_7 := blk_frozen BK104.out 7; have hfz4_8 := blk_frozen BK104.out 8; have hfz4_9 := blk_frozen BK104.out 9; have hfz4_10 := blk_frozen BK104.out 10) | ((with_reducible refine gate_dst (N := 3) rfl ?_); refine box_event ?hg (N := 3) ?hd (cs := #[.int .i64 0, .slice none 0 0, .int .u32 0, .int .i64 0, .int .i64 0, .slice none 0 0, .slice none 0 0]) (t := 46) ?hr ?_; (case hd => rfl); (case hg => rfl); (case hr => first | (go_simp; done) | (go_simp; rfl) | (go_simp; simp [IntKind.wrap_u8, IntKind.wrap_u32]; done)); intro gb105 hg w5 hbox hb; have n0_ := Aside0.mk (blk_below (g := gb104) (o := .cells #[.int .u32 a0_0, .int .i64 a0_1, .int .i64 a0_2, .int .i64 a0_3, .slice A0_4 l0_4.length c0_4, .int .u32 a0_5, .int .i64 a0_6, .int .i64 a0_7, .slice A0_8 l0_8.length c0_8, .slice A0_9 l0_9.length c0_9, .int .i64 a0_10] 48 (0, 0)) (by (with_reducible repeat (first | refine blk_drewN ?_ _ | refine blk_drew ?_ | refine blk_alloc ?_ _)); exact BK104.out) hb); have n1_ := Aside0.mk (below_step (by repeat (first | (with_reducible first | exact HB.out | apply below_alloc | apply pw_below_drewN | apply below_drew1 | refine below_set ?_ GE104.out) | exact HB.out)) hb); have n2_ := Aside0.mk (hbox); have n3_ := Aside0.mk ((by rw [hg]; exact (below_size (by repeat (first | (with_reducible first | exact HB.out | apply below_alloc | apply pw_below_drewN | apply below_drew1 | refine below_set ?_ GE104.out) | exact HB.out))) : w.heap.size ≤ gb105)); have n4_ := Aside0.mk ((by rw [hg]; exact (below_size (by repeat (first | (with_reducible first | exact HB.out | apply below_alloc | apply pw_below_drewN | apply below_drew1 | refine below_set ?_ GE104.out) | exact HB.out))) : w.heap.size ≤ gb105)); have n5_ := Aside0.mk ((by rw [hg]; exact Nat.ne_of_lt (blk_lt (g := gb104) (o := .cells #[.int .u32 a0_0, .int .i64 a0_1, .int .i64 a0_2, .int .i64 a0_3, .slice A0_4 l0_4.length c0_4, .int .u32 a0_5, .int .i64 a0_6, .int .i64 a0_7, .slice A0_8 l0_8.length c0_8, .slice A0_9 l0_9.length c0_9, .int .i64 a0_10] 48 (0, 0)) (by (with_reducible repeat (first | refine blk_drewN ?_ _ | refine blk_drew ?_ | refine blk_alloc ?_ _)); exact BK104.out)) : gb104 ≠ gb105)); have n6_ := Aside0.mk ((by rw [hg]; exact Nat.ne_of_gt (blk_lt (g := gb104) (o := .cells #[.int .u32 a0_0, .int .i64 a0_1, .int .i64 a0_2, .int .i64 a0_3, .slice A0_4 l0_4.length c0_4, .int .u32 a0_5, .int .i64 a0_6, .int .i64 a0_7, .slice A0_8 l0_8.length c0_8, .slice A0_9 l0_9.length c0_9, .int .i64 a0_10] 48 (0, 0)) (by (with_reducible repeat (first | refine blk_drewN ?_ _ | refine blk_drew ?_ | refine blk_alloc ?_ _)); exact BK104.out)) : gb105 ≠ gb104)); clear BK104; clear HB; have BK104 := n0_; have HB := n1_; have BK105 := n2_; have GW105 := n3_; have GE105 := n4_; have NB104_105 := n5_; have NB105_104 := n6_; clear n0_ n1_ n2_ n3_ n4_ n5_ n6_; clear hb hbox hg; have hnb6 := NB105_104.out; have hnc6 := NB104_105.out; have hcz7_0 : w5.cell? ⟨gb105, 0, none⟩ = some (.int .i64 0) := (blk_cell BK105.out 0).trans rfl; have hcz7_1 : w5.cell? ⟨gb105, 1, none⟩ = some (.slice none 0 0) := (blk_cell BK105.out 1).trans rfl; have hcz7_2 : w5.cell? ⟨gb105, 2, none⟩ = some (.int .u32 0) := (blk_cell BK105.out 2).trans rfl; have hcz7_3 : w5.cell? ⟨gb105, 3, none⟩ = some (.int .i64 0) := (blk_cell BK105.out 3).trans rfl; have hcz7_4 : w5.cell? ⟨gb105, 4, none⟩ = some (.int .i64 0) := (blk_cell BK105.out 4).trans rfl; have hcz7_5 : w5.cell? ⟨gb105, 5, none⟩ = some (.slice none 0 0) := (blk_cell BK105.out 5).trans rfl; have hcz7_6 : w5.cell? ⟨gb105, 6, none⟩ = some (.slice none 0 0) := (blk_cell BK105.out 6).trans rfl; have hfz7_0 := blk_frozen BK105.out 0; have hfz7_1 := blk_frozen BK105.out 1; have hfz7_2 := blk_frozen BK105.out 2; have hfz7_3 := blk_frozen BK105.out 3; have hfz7_4 := blk_frozen BK105.out 4; have hfz7_5 := blk_frozen BK105.out 5; have hfz7_6 := blk_frozen BK105.out 6))
  (try simp only [Act.put, List.setIfInBounds_toArray, List.set_cons_zero, List.set_cons_succ])
  go_cut [4] (fun v4 wc => ∃ (kq : Nat) (x4_1 : Int), v4 = .int .i64 x4_1 ∧ Aside0 (interregnumlaw13_small.j1 kq x4_1 a0_3 l0_4 a0_5 a0_6 a0_7 l0_8 l0_9 = some r) ∧ Aside0 (kq ≤ k) ∧ Aside0 (wc.heap[gb104]? = some (.cells #[.int .u32 a0_0, .int .i64 a0_1, .int .i64 a0_2, .int .i64 a0_3, (.slice A0_4 l0_4.length c0_4), .int .u32 a0_5, .int .i64 a0_6, .int .i64 a0_7, (.slice A0_8 l0_8.length c0_8), (.slice A0_9 l0_9.length c0_9), .int .i64 a0_10] 48 (0, 0))) ∧ Aside0 (wc.heap[gb105]? = some (.cells #[.int .i64 a0_3, (.slice A0_4 l0_4.length c0_4), .int .u32 a0_5, .int .i64 a0_6, .int .i64 a0_7, (.slice A0_8 l0_8.length c0_8), (.slice A0_9 l0_9.length c0_9)] 46 (0, 0))) ∧ Aside0 (Below w.heap.size w wc))
  case first =>
    have H := HC2.out
    clear HC2
    have H' := Aside0.mk H
    clear H
    go_wp2
    go_loopg [4, 5] k (fun kq v4 v5 w' => ∃ (x4_1 : Int) (x5_1 : Int), v4 = .int .i64 x4_1 ∧ v5 = .int .i64 x5_1 ∧ Aside0 (interregnumlaw13_small.l0 kq x4_1 x5_1 a0_3 l0_4 a0_5 a0_6 a0_7 l0_8 l0_9 = some r) ∧ Aside0 (kq ≤ k) ∧ Aside0 (w'.heap[gb104]? = some (.cells #[.int .u32 a0_0, .int .i64 a0_1, .int .i64 a0_2, .int .i64 a0_3, (.slice A0_4 l0_4.length c0_4), .int .u32 a0_5, .int .i64 a0_6, .int .i64 a0_7, (.slice A0_8 l0_8.length c0_8), (.slice A0_9 l0_9.length c0_9), .int .i64 a0_10] 48 (0, 0))) ∧ Aside0 (w'.heap[gb105]? = some (.cells #[.int .i64 a0_3, (.slice A0_4 l0_4.length c0_4), .int .u32 a0_5, .int .i64 a0_6, .int .i64 a0_7, (.slice A0_8 l0_8.length c0_8), (.slice A0_9 l0_9.length c0_9)] 46 (0, 0))) ∧ Aside0 (Below w.heap.size w w'))
    case atStart => exact ⟨(wrap64 ((wrap64 ((l0_4.length : Int) + (l0_8.length : Int))) + (l0_9.length : Int))), (0), (by first | rfl | (simp; done) | (simp [*]; done)), (by first | rfl | (simp; done) | (simp [*]; done)), H', ⟨Nat.le_refl _⟩, ⟨by (with_reducible repeat (first | refine blk_drewN ?_ _ | refine blk_drew ?_ | refine blk_alloc ?_ _)); refine blk_far ?_ NB104_105.out _; (with_reducible repeat (first | refine blk_drewN ?_ _ | refine blk_drew ?_ | refine blk_alloc ?_ _)); refine blk_far ?_ NB104_105.out _; (with_reducible repeat (first | refine blk_drewN ?_ _ | refine blk_drew ?_ | refine blk_alloc ?_ _)); refine blk_far ?_ NB104_105.out _; (with_reducible repeat (first | refine blk_drewN ?_ _ | refine blk_drew ?_ | refine blk_alloc ?_ _)); refine blk_far ?_ NB104_105.out _; (with_reducible repeat (first | refine blk_drewN ?_ _ | refine blk_drew ?_ | refine blk_alloc ?_ _)); refine blk_far ?_ NB104_105.out _; (with_reducible repeat (first | refine blk_drewN ?_ _ | refine blk_drew ?_ | refine blk_alloc ?_ _)); refine blk_far ?_ NB104_105.out _; (with_reducible repeat (first | refine blk_drewN ?_ _ | refine blk_drew ?_ | refine blk_alloc ?_ _)); refine blk_far ?_ NB104_105.out _; (with_reducible repeat (first | refine blk_drewN ?_ _ | refine blk_drew ?_ | refine blk_alloc ?_ _)); exact BK104.out⟩, ⟨by (with_reducible repeat (first | refine blk_drewN ?_ _ | refine blk_drew ?_ | refine blk_alloc ?_ _)); refine blk_put (cs := #[.int .i64 a0_3, .slice A0_4 l0_4.length c0_4, .int .u32 a0_5, .int .i64 a0_6, .int .i64 a0_7, .slice A0_8 l0_8.length c0_8, .slice none 0 0]) ?_ 6 _ rfl; (with_reducible repeat (first | refine blk_drewN ?_ _ | refine blk_drew ?_ | refine blk_alloc ?_ _)); refine blk_put (cs := #[.int .i64 a0_3, .slice A0_4 l0_4.length c0_4, .int .u32 a0_5, .int .i64 a0_6, .int .i64 a0_7, .slice none 0 0, .slice none 0 0]) ?_ 5 _ rfl; (with_reducible repeat (first | refine blk_drewN ?_ _ | refine blk_drew ?_ | refine blk_alloc ?_ _)); refine blk_put (cs := #[.int .i64 a0_3, .slice A0_4 l0_4.length c0_4, .int .u32 a0_5, .int .i64 a0_6, .int .i64 0, .slice none 0 0, .slice none 0 0]) ?_ 4 _ rfl; (with_reducible repeat (first | refine blk_drewN ?_ _ | refine blk_drew ?_ | refine blk_alloc ?_ _)); refine blk_put (cs := #[.int .i64 a0_3, .slice A0_4 l0_4.length c0_4, .int .u32 a0_5, .int .i64 0, .int .i64 0, .slice none 0 0, .slice none 0 0]) ?_ 3 _ rfl; (with_reducible repeat (first | refine blk_drewN ?_ _ | refine blk_drew ?_ | refine blk_alloc ?_ _)); refine blk_put (cs := #[.int .i64 a0_3, .slice A0_4 l0_4.length c0_4, .int .u32 0, .int .i64 0, .int .i64 0, .slice none 0 0, .slice none 0 0]) ?_ 2 _ rfl; (with_reducible repeat (first | refine blk_drewN ?_ _ | refine blk_drew ?_ | refine blk_alloc ?_ _)); refine blk_put (cs := #[.int .i64 a0_3, .slice none 0 0, .int .u32 0, .int .i64 0, .int .i64 0, .slice none 0 0, .slice none 0 0]) ?_ 1 _ rfl; (with_reducible repeat (first | refine blk_drewN ?_ _ | refine blk_drew ?_ | refine blk_alloc ?_ _)); refine blk_put (cs := #[.int .i64 0, .slice none 0 0, .int .u32 0, .int .i64 0, .int .i64 0, .slice none 0 0, .slice none 0 0]) ?_ 0 _ rfl; (with_reducible repeat (first | refine blk_drewN ?_ _ | refine blk_drew ?_ | refine blk_alloc ?_ _)); exact BK105.out⟩, ⟨by repeat (first | (with_reducible first | exact HB.out | apply below_alloc | apply pw_below_drewN | apply below_drew1 | refine below_set ?_ GE104.out | refine below_set ?_ GE105.out) | exact HB.out)⟩⟩
    case round =>
      clear H'
      try clear c2
      try clear p2
      try clear c6
      try clear p6
      try clear hcz4_0
      try clear hcz4_1
      try clear hcz4_10
      try clear hcz4_2
      try clear hcz4_3
      try clear hcz4_4
      try clear hcz4_5
      try clear hcz4_6
      try clear hcz4_7
      try clear hcz4_8
      try clear hcz4_9
      try clear hcz7_0
      try clear hcz7_1
      try clear hcz7_2
      try clear hcz7_3
      try clear hcz7_4
      try clear hcz7_5
      try clear hcz7_6
      try clear hfz4_0
      try clear hfz4_1
      try clear hfz4_10
      try clear hfz4_2
      try clear hfz4_3
      try clear hfz4_4
      try clear hfz4_5
      try clear hfz4_6
      try clear hfz4_7
      try clear hfz4_8
      try clear hfz4_9
      try clear hfz7_0
      try clear hfz7_1
      try clear hfz7_2
      try clear hfz7_3
      try clear hfz7_4
      try clear hfz7_5
      try clear hfz7_6
      obtain ⟨x4_1, x5_1, rfl, rfl, HA, HK1, BK104, BK105, HB⟩ := hrel
      cases gk with
      | zero => exact absurd HA.out (by simp [interregnumlaw13_small.l0])
      | succ k1 =>
        have H := HA.out
        clear HA
        simp only [interregnumlaw13_small.l0] at H
        by_cases c8 : x5_1 < (l0_4.length : Int)
        · rw [if_pos c8] at H
          have c8b0 : decide (x5_1 < (l0_4.length : Int)) = true := decide_eq_true c8
          clear c8
          (first | rw [c8b0] | (simp only [i64_w, i32_w]; rw [c8b0]) | skip)
          by_cases c9 : x4_1 < 3000
          · rw [if_pos c9] at H
            have c9b0 : decide (x4_1 < 3000) = true := decide_eq_true c9
            clear c9
            by_cases c10 : 0 ≤ x5_1
            · rw [if_pos c10] at H
              have c10b0 : decide (0 ≤ x5_1) = true := decide_eq_true c10
              clear c10
              have H' := Aside0.mk H
              clear H
              have hnb11 := NB105_104.out
              have hnc11 := NB104_105.out
              have hcz12_0 : wr.cell? ⟨gb105, 0, none⟩ = some (.int .i64 a0_3) := (blk_cell BK105.out 0).trans rfl
              have hcz12_1 : wr.cell? ⟨gb105, 1, none⟩ = some (.slice A0_4 l0_4.length c0_4) := (blk_cell BK105.out 1).trans rfl
              have hcz12_2 : wr.cell? ⟨gb105, 2, none⟩ = some (.int .u32 a0_5) := (blk_cell BK105.out 2).trans rfl
              have hcz12_3 : wr.cell? ⟨gb105, 3, none⟩ = some (.int .i64 a0_6) := (blk_cell BK105.out 3).trans rfl
              have hcz12_4 : wr.cell? ⟨gb105, 4, none⟩ = some (.int .i64 a0_7) := (blk_cell BK105.out 4).trans rfl
              have hcz12_5 : wr.cell? ⟨gb105, 5, none⟩ = some (.slice A0_8 l0_8.length c0_8) := (blk_cell BK105.out 5).trans rfl
              have hcz12_6 : wr.cell? ⟨gb105, 6, none⟩ = some (.slice A0_9 l0_9.length c0_9) := (blk_cell BK105.out 6).trans rfl
              have hfz12_0 := blk_frozen BK105.out 0
              have hfz12_1 := blk_frozen BK105.out 1
              have hfz12_2 := blk_frozen BK105.out 2
              have hfz12_3 := blk_frozen BK105.out 3
              have hfz12_4 := blk_frozen BK105.out 4
              have hfz12_5 := blk_frozen BK105.out 5
              have hfz12_6 := blk_frozen BK105.out 6
              have p106 : 0 ≤ (x5_1 : Int) := of_decide_eq_true (by first | (with_reducible assumption) | assumption)
              have q106 : x5_1 < (l0_4.length : Int) := of_decide_eq_true (by first | (with_reducible assumption) | assumption)
              obtain ⟨ad106, A106_1, c106_1, e106, hx106_0, hx106_1, hl106_1, hi106_1⟩ := at_T38 HR0_4.out x5_1 p106 q106
              cases e106
              replace hx106_0 := (HB.out.cell (World.block_lt_of_cell? w _ hx106_0)).trans hx106_0
              replace hx106_1 := (HB.out.cell (World.block_lt_of_cell? w _ hx106_1)).trans hx106_1
              have HR106_1 := Aside0.mk hi106_1
              have HC106_1 := Aside0.mk hl106_1
              clear hi106_1 hl106_1
              replace p106 := eq_true p106
              replace q106 := eq_true q106
              go_wp2
              go_roundg k1
              case measure => have := HK1.out; omega
              case rel => exact ⟨(wrap64 (x4_1 + (((rd_T38 l0_4 x5_1).f1).length : Int))), (wrap64 (x5_1 + 1)), (by first | rfl | (simp; done) | (simp [*]; done)), (by first | rfl | (simp; done) | (simp [*]; done)), H', ⟨by have := HK1.out; omega⟩, ⟨by (with_reducible repeat (first | refine blk_drewN ?_ _ | refine blk_drew ?_ | refine blk_alloc ?_ _)); exact BK104.out⟩, ⟨by (with_reducible repeat (first | refine blk_drewN ?_ _ | refine blk_drew ?_ | refine blk_alloc ?_ _)); exact BK105.out⟩, ⟨by repeat (first | (with_reducible first | exact HB.out | apply below_alloc | apply pw_below_drewN | apply below_drew1 | refine below_set ?_ GE104.out | refine below_set ?_ GE105.out) | exact HB.out)⟩⟩
            · rw [if_neg c10] at H
              exact absurd H (by simp)
          · rw [if_neg c9] at H
            have c9b0 : decide (x4_1 < 3000) = false := decide_eq_false c9
            clear c9
            have H' := Aside0.mk H
            clear H
            have hnb13 := NB105_104.out
            have hnc13 := NB104_105.out
            have hcz14_0 : wr.cell? ⟨gb105, 0, none⟩ = some (.int .i64 a0_3) := (blk_cell BK105.out 0).trans rfl
            have hcz14_1 : wr.cell? ⟨gb105, 1, none⟩ = some (.slice A0_4 l0_4.length c0_4) := (blk_cell BK105.out 1).trans rfl
            have hcz14_2 : wr.cell? ⟨gb105, 2, none⟩ = some (.int .u32 a0_5) := (blk_cell BK105.out 2).trans rfl
            have hcz14_3 : wr.cell? ⟨gb105, 3, none⟩ = some (.int .i64 a0_6) := (blk_cell BK105.out 3).trans rfl
            have hcz14_4 : wr.cell? ⟨gb105, 4, none⟩ = some (.int .i64 a0_7) := (blk_cell BK105.out 4).trans rfl
            have hcz14_5 : wr.cell? ⟨gb105, 5, none⟩ = some (.slice A0_8 l0_8.length c0_8) := (blk_cell BK105.out 5).trans rfl
            have hcz14_6 : wr.cell? ⟨gb105, 6, none⟩ = some (.slice A0_9 l0_9.length c0_9) := (blk_cell BK105.out 6).trans rfl
            have hfz14_0 := blk_frozen BK105.out 0
            have hfz14_1 := blk_frozen BK105.out 1
            have hfz14_2 := blk_frozen BK105.out 2
            have hfz14_3 := blk_frozen BK105.out 3
            have hfz14_4 := blk_frozen BK105.out 4
            have hfz14_5 := blk_frozen BK105.out 5
            have hfz14_6 := blk_frozen BK105.out 6
            go_wp2
            go_meet
            case rel => exact ⟨_, (x4_1), (by first | rfl | (simp; done) | (simp [*]; done)), H', ⟨by have := HK1.out; first | omega | exact Nat.le_refl _⟩, ⟨by (with_reducible repeat (first | refine blk_drewN ?_ _ | refine blk_drew ?_ | refine blk_alloc ?_ _)); exact BK104.out⟩, ⟨by (with_reducible repeat (first | refine blk_drewN ?_ _ | refine blk_drew ?_ | refine blk_alloc ?_ _)); exact BK105.out⟩, ⟨by repeat (first | (with_reducible first | exact HB.out | apply below_alloc | apply pw_below_drewN | apply below_drew1 | refine below_set ?_ GE104.out | refine below_set ?_ GE105.out) | exact HB.out)⟩⟩
        · rw [if_neg c8] at H
          have c8b0 : decide (x5_1 < (l0_4.length : Int)) = false := decide_eq_false c8
          clear c8
          (first | rw [c8b0] | (simp only [i64_w, i32_w]; rw [c8b0]) | skip)
          have H' := Aside0.mk H
          clear H
          have hnb15 := NB105_104.out
          have hnc15 := NB104_105.out
          have hcz16_0 : wr.cell? ⟨gb105, 0, none⟩ = some (.int .i64 a0_3) := (blk_cell BK105.out 0).trans rfl
          have hcz16_1 : wr.cell? ⟨gb105, 1, none⟩ = some (.slice A0_4 l0_4.length c0_4) := (blk_cell BK105.out 1).trans rfl
          have hcz16_2 : wr.cell? ⟨gb105, 2, none⟩ = some (.int .u32 a0_5) := (blk_cell BK105.out 2).trans rfl
          have hcz16_3 : wr.cell? ⟨gb105, 3, none⟩ = some (.int .i64 a0_6) := (blk_cell BK105.out 3).trans rfl
          have hcz16_4 : wr.cell? ⟨gb105, 4, none⟩ = some (.int .i64 a0_7) := (blk_cell BK105.out 4).trans rfl
          have hcz16_5 : wr.cell? ⟨gb105, 5, none⟩ = some (.slice A0_8 l0_8.length c0_8) := (blk_cell BK105.out 5).trans rfl
          have hcz16_6 : wr.cell? ⟨gb105, 6, none⟩ = some (.slice A0_9 l0_9.length c0_9) := (blk_cell BK105.out 6).trans rfl
          have hfz16_0 := blk_frozen BK105.out 0
          have hfz16_1 := blk_frozen BK105.out 1
          have hfz16_2 := blk_frozen BK105.out 2
          have hfz16_3 := blk_frozen BK105.out 3
          have hfz16_4 := blk_frozen BK105.out 4
          have hfz16_5 := blk_frozen BK105.out 5
          have hfz16_6 := blk_frozen BK105.out 6
          go_wp2
          go_meet
          case rel => exact ⟨_, (x4_1), (by first | rfl | (simp; done) | (simp [*]; done)), H', ⟨by have := HK1.out; first | omega | exact Nat.le_refl _⟩, ⟨by (with_reducible repeat (first | refine blk_drewN ?_ _ | refine blk_drew ?_ | refine blk_alloc ?_ _)); exact BK104.out⟩, ⟨by (with_reducible repeat (first | refine blk_drewN ?_ _ | refine blk_drew ?_ | refine blk_alloc ?_ _)); exact BK105.out⟩, ⟨by repeat (first | (with_reducible first | exact HB.out | apply below_alloc | apply pw_below_drewN | apply below_drew1 | refine below_set ?_ GE104.out | refine below_set ?_ GE105.out) | exact HB.out)⟩⟩
  case rest =>
    clear HC2
    try clear c1
    try clear p1
    try clear q1
    try clear hx1
    try clear c2
    try clear p2
    try clear c6
    try clear p6
    try clear c8
    try clear c8b0
    try clear c9
    try clear c9b0
    try clear c10
    try clear c10b0
    try clear p10
    try clear q10
    try clear hx10
    try clear c11
    try clear c13
    try clear c15
    try clear hcz12_0
    try clear hcz12_1
    try clear hcz12_2
    try clear hcz12_3
    try clear hcz12_4
    try clear hcz12_5
    try clear hcz12_6
    try clear hcz14_0
    try clear hcz14_1
    try clear hcz14_2
    try clear hcz14_3
    try clear hcz14_4
    try clear hcz14_5
    try clear hcz14_6
    try clear hcz16_0
    try clear hcz16_1
    try clear hcz16_2
    try clear hcz16_3
    try clear hcz16_4
    try clear hcz16_5
    try clear hcz16_6
    try clear hcz4_0
    try clear hcz4_1
    try clear hcz4_10
    try clear hcz4_2
    try clear hcz4_3
    try clear hcz4_4
    try clear hcz4_5
    try clear hcz4_6
    try clear hcz4_7
    try clear hcz4_8
    try clear hcz4_9
    try clear hcz7_0
    try clear hcz7_1
    try clear hcz7_2
    try clear hcz7_3
    try clear hcz7_4
    try clear hcz7_5
    try clear hcz7_6
    try clear hfz12_0
    try clear hfz12_1
    try clear hfz12_2
    try clear hfz12_3
    try clear hfz12_4
    try clear hfz12_5
    try clear hfz12_6
    try clear hfz14_0
    try clear hfz14_1
    try clear hfz14_2
    try clear hfz14_3
    try clear hfz14_4
    try clear hfz14_5
    try clear hfz14_6
    try clear hfz16_0
    try clear hfz16_1
    try clear hfz16_2
    try clear hfz16_3
    try clear hfz16_4
    try clear hfz16_5
    try clear hfz16_6
    try clear hfz4_0
    try clear hfz4_1
    try clear hfz4_10
    try clear hfz4_2
    try clear hfz4_3
    try clear hfz4_4
    try clear hfz4_5
    try clear hfz4_6
    try clear hfz4_7
    try clear hfz4_8
    try clear hfz4_9
    try clear hfz7_0
    try clear hfz7_1
    try clear hfz7_2
    try clear hfz7_3
    try clear hfz7_4
    try clear hfz7_5
    try clear hfz7_6
    try clear hx106_0
    try clear hx106_1
    try clear p106
    try clear p2
    try clear p6
    try clear q106
    obtain ⟨kq, x4_1, rfl, HA, HJ1, BK104, BK105, HB⟩ := hcut
    cases kq with
    | zero => exact absurd HA.out (by simp [interregnumlaw13_small.j1])
    | succ kj1 =>
      have H := HA.out
      clear HA
      simp only [interregnumlaw13_small.j1] at H
      have H' := Aside0.mk H
      clear H
      go_wp2
      go_loopg [4, 6] kj1 (fun kq v4 v6 w' => ∃ (x4_2 : Int) (x6_2 : Int), v4 = .int .i64 x4_2 ∧ v6 = .int .i64 x6_2 ∧ Aside0 (interregnumlaw13_small.l1 kq x4_2 x6_2 a0_3 l0_4 a0_5 a0_6 a0_7 l0_8 l0_9 = some r) ∧ Aside0 (kq ≤ kj1) ∧ Aside0 (w'.heap[gb104]? = some (.cells #[.int .u32 a0_0, .int .i64 a0_1, .int .i64 a0_2, .int .i64 a0_3, (.slice A0_4 l0_4.length c0_4), .int .u32 a0_5, .int .i64 a0_6, .int .i64 a0_7, (.slice A0_8 l0_8.length c0_8), (.slice A0_9 l0_9.length c0_9), .int .i64 a0_10] 48 (0, 0))) ∧ Aside0 (w'.heap[gb105]? = some (.cells #[.int .i64 a0_3, (.slice A0_4 l0_4.length c0_4), .int .u32 a0_5, .int .i64 a0_6, .int .i64 a0_7, (.slice A0_8 l0_8.length c0_8), (.slice A0_9 l0_9.length c0_9)] 46 (0, 0))) ∧ Aside0 (Below w.heap.size w w'))
      case atStart => exact ⟨(x4_1), (0), (by first | rfl | (simp; done) | (simp [*]; done)), (by first | rfl | (simp; done) | (simp [*]; done)), H', ⟨Nat.le_refl _⟩, ⟨by (with_reducible repeat (first | refine blk_drewN ?_ _ | refine blk_drew ?_ | refine blk_alloc ?_ _)); exact BK104.out⟩, ⟨by (with_reducible repeat (first | refine blk_drewN ?_ _ | refine blk_drew ?_ | refine blk_alloc ?_ _)); exact BK105.out⟩, ⟨by repeat (first | (with_reducible first | exact HB.out | apply below_alloc | apply pw_below_drewN | apply below_drew1 | refine below_set ?_ GE104.out | refine below_set ?_ GE105.out) | exact HB.out)⟩⟩
      case round =>
        clear H'
        try clear c1
        try clear p1
        try clear q1
        try clear hx1
        try clear c2
        try clear p2
        try clear c6
        try clear p6
        try clear c8
        try clear c8b0
        try clear c9
        try clear c9b0
        try clear c10
        try clear c10b0
        try clear p10
        try clear q10
        try clear hx10
        try clear c11
        try clear c13
        try clear c15
        try clear hcz12_0
        try clear hcz12_1
        try clear hcz12_2
        try clear hcz12_3
        try clear hcz12_4
        try clear hcz12_5
        try clear hcz12_6
        try clear hcz14_0
        try clear hcz14_1
        try clear hcz14_2
        try clear hcz14_3
        try clear hcz14_4
        try clear hcz14_5
        try clear hcz14_6
        try clear hcz16_0
        try clear hcz16_1
        try clear hcz16_2
        try clear hcz16_3
        try clear hcz16_4
        try clear hcz16_5
        try clear hcz16_6
        try clear hcz4_0
        try clear hcz4_1
        try clear hcz4_10
        try clear hcz4_2
        try clear hcz4_3
        try clear hcz4_4
        try clear hcz4_5
        try clear hcz4_6
        try clear hcz4_7
        try clear hcz4_8
        try clear hcz4_9
        try clear hcz7_0
        try clear hcz7_1
        try clear hcz7_2
        try clear hcz7_3
        try clear hcz7_4
        try clear hcz7_5
        try clear hcz7_6
        try clear hfz12_0
        try clear hfz12_1
        try clear hfz12_2
        try clear hfz12_3
        try clear hfz12_4
        try clear hfz12_5
        try clear hfz12_6
        try clear hfz14_0
        try clear hfz14_1
        try clear hfz14_2
        try clear hfz14_3
        try clear hfz14_4
        try clear hfz14_5
        try clear hfz14_6
        try clear hfz16_0
        try clear hfz16_1
        try clear hfz16_2
        try clear hfz16_3
        try clear hfz16_4
        try clear hfz16_5
        try clear hfz16_6
        try clear hfz4_0
        try clear hfz4_1
        try clear hfz4_10
        try clear hfz4_2
        try clear hfz4_3
        try clear hfz4_4
        try clear hfz4_5
        try clear hfz4_6
        try clear hfz4_7
        try clear hfz4_8
        try clear hfz4_9
        try clear hfz7_0
        try clear hfz7_1
        try clear hfz7_2
        try clear hfz7_3
        try clear hfz7_4
        try clear hfz7_5
        try clear hfz7_6
        try clear hx106_0
        try clear hx106_1
        try clear p1
        try clear p10
        try clear p106
        try clear p2
        try clear p6
        try clear q1
        try clear q10
        try clear q106
        obtain ⟨x4_2, x6_2, rfl, rfl, HA, HK2, BK104, BK105, HB⟩ := hrel
        cases gk with
        | zero => exact absurd HA.out (by simp [interregnumlaw13_small.l1])
        | succ k2 =>
          have H := HA.out
          clear HA
          simp only [interregnumlaw13_small.l1] at H
          by_cases c17 : x6_2 < (l0_9.length : Int)
          · rw [if_pos c17] at H
            have c17b0 : decide (x6_2 < (l0_9.length : Int)) = true := decide_eq_true c17
            clear c17
            by_cases c18 : x4_2 < 3000
            · rw [if_pos c18] at H
              have c18b0 : decide (x4_2 < 3000) = true := decide_eq_true c18
              clear c18
              by_cases c19 : 0 ≤ x6_2
              · rw [if_pos c19] at H
                have c19b0 : decide (0 ≤ x6_2) = true := decide_eq_true c19
                clear c19
                have H' := Aside0.mk H
                clear H
                have hnb20 := NB105_104.out
                have hnc20 := NB104_105.out
                have hcz21_0 : wr.cell? ⟨gb105, 0, none⟩ = some (.int .i64 a0_3) := (blk_cell BK105.out 0).trans rfl
                have hcz21_1 : wr.cell? ⟨gb105, 1, none⟩ = some (.slice A0_4 l0_4.length c0_4) := (blk_cell BK105.out 1).trans rfl
                have hcz21_2 : wr.cell? ⟨gb105, 2, none⟩ = some (.int .u32 a0_5) := (blk_cell BK105.out 2).trans rfl
                have hcz21_3 : wr.cell? ⟨gb105, 3, none⟩ = some (.int .i64 a0_6) := (blk_cell BK105.out 3).trans rfl
                have hcz21_4 : wr.cell? ⟨gb105, 4, none⟩ = some (.int .i64 a0_7) := (blk_cell BK105.out 4).trans rfl
                have hcz21_5 : wr.cell? ⟨gb105, 5, none⟩ = some (.slice A0_8 l0_8.length c0_8) := (blk_cell BK105.out 5).trans rfl
                have hcz21_6 : wr.cell? ⟨gb105, 6, none⟩ = some (.slice A0_9 l0_9.length c0_9) := (blk_cell BK105.out 6).trans rfl
                have hfz21_0 := blk_frozen BK105.out 0
                have hfz21_1 := blk_frozen BK105.out 1
                have hfz21_2 := blk_frozen BK105.out 2
                have hfz21_3 := blk_frozen BK105.out 3
                have hfz21_4 := blk_frozen BK105.out 4
                have hfz21_5 := blk_frozen BK105.out 5
                have hfz21_6 := blk_frozen BK105.out 6
                have p107 : 0 ≤ (x6_2 : Int) := of_decide_eq_true (by first | (with_reducible assumption) | assumption)
                have q107 : x6_2 < (l0_9.length : Int) := of_decide_eq_true (by first | (with_reducible assumption) | assumption)
                obtain ⟨ad107, A107_2, c107_2, e107, hx107_0, hx107_1, hx107_2, hl107_2, hi107_2⟩ := at_T58 HR0_9.out x6_2 p107 q107
                cases e107
                replace hx107_0 := (HB.out.cell (World.block_lt_of_cell? w _ hx107_0)).trans hx107_0
                replace hx107_1 := (HB.out.cell (World.block_lt_of_cell? w _ hx107_1)).trans hx107_1
                replace hx107_2 := (HB.out.cell (World.block_lt_of_cell? w _ hx107_2)).trans hx107_2
                have HR107_2 := Aside0.mk hi107_2
                have HC107_2 := Aside0.mk hl107_2
                clear hi107_2 hl107_2
                replace p107 := eq_true p107
                replace q107 := eq_true q107
                go_wp2
                go_roundg k2
                case measure => have := HJ1.out; have := HK2.out; omega
                case rel => exact ⟨(wrap64 (x4_2 + (((rd_T58 l0_9 x6_2).f2).length : Int))), (wrap64 (x6_2 + 1)), (by first | rfl | (simp; done) | (simp [*]; done)), (by first | rfl | (simp; done) | (simp [*]; done)), H', ⟨by have := HJ1.out; have := HK2.out; omega⟩, ⟨by (with_reducible repeat (first | refine blk_drewN ?_ _ | refine blk_drew ?_ | refine blk_alloc ?_ _)); exact BK104.out⟩, ⟨by (with_reducible repeat (first | refine blk_drewN ?_ _ | refine blk_drew ?_ | refine blk_alloc ?_ _)); exact BK105.out⟩, ⟨by repeat (first | (with_reducible first | exact HB.out | apply below_alloc | apply pw_below_drewN | apply below_drew1 | refine below_set ?_ GE104.out | refine below_set ?_ GE105.out) | exact HB.out)⟩⟩
              · rw [if_neg c19] at H
                exact absurd H (by simp)
            · rw [if_neg c18] at H
              have c18b0 : decide (x4_2 < 3000) = false := decide_eq_false c18
              clear c18
              obtain rfl := Option.some.inj H
              have hnb22 := NB105_104.out
              have hnc22 := NB104_105.out
              have hcz23_0 : wr.cell? ⟨gb105, 0, none⟩ = some (.int .i64 a0_3) := (blk_cell BK105.out 0).trans rfl
              have hcz23_1 : wr.cell? ⟨gb105, 1, none⟩ = some (.slice A0_4 l0_4.length c0_4) := (blk_cell BK105.out 1).trans rfl
              have hcz23_2 : wr.cell? ⟨gb105, 2, none⟩ = some (.int .u32 a0_5) := (blk_cell BK105.out 2).trans rfl
              have hcz23_3 : wr.cell? ⟨gb105, 3, none⟩ = some (.int .i64 a0_6) := (blk_cell BK105.out 3).trans rfl
              have hcz23_4 : wr.cell? ⟨gb105, 4, none⟩ = some (.int .i64 a0_7) := (blk_cell BK105.out 4).trans rfl
              have hcz23_5 : wr.cell? ⟨gb105, 5, none⟩ = some (.slice A0_8 l0_8.length c0_8) := (blk_cell BK105.out 5).trans rfl
              have hcz23_6 : wr.cell? ⟨gb105, 6, none⟩ = some (.slice A0_9 l0_9.length c0_9) := (blk_cell BK105.out 6).trans rfl
              have hfz23_0 := blk_frozen BK105.out 0
              have hfz23_1 := blk_frozen BK105.out 1
              have hfz23_2 := blk_frozen BK105.out 2
              have hfz23_3 := blk_frozen BK105.out 3
              have hfz23_4 := blk_frozen BK105.out 4
              have hfz23_5 := blk_frozen BK105.out 5
              have hfz23_6 := blk_frozen BK105.out 6
              go_wp2
              go_ret
              exact ⟨by first | rfl | (simp [errW_none, errW_some] <;> rfl) | (simp [*, errW_none, errW_some] <;> rfl), by repeat (first | (with_reducible first | exact HB.out | apply below_alloc | apply pw_below_drewN | apply below_drew1 | refine below_set ?_ GE104.out | refine below_set ?_ GE105.out) | exact HB.out)⟩
          · rw [if_neg c17] at H
            have c17b0 : decide (x6_2 < (l0_9.length : Int)) = false := decide_eq_false c17
            clear c17
            obtain rfl := Option.some.inj H
            have hnb24 := NB105_104.out
            have hnc24 := NB104_105.out
            have hcz25_0 : wr.cell? ⟨gb105, 0, none⟩ = some (.int .i64 a0_3) := (blk_cell BK105.out 0).trans rfl
            have hcz25_1 : wr.cell? ⟨gb105, 1, none⟩ = some (.slice A0_4 l0_4.length c0_4) := (blk_cell BK105.out 1).trans rfl
            have hcz25_2 : wr.cell? ⟨gb105, 2, none⟩ = some (.int .u32 a0_5) := (blk_cell BK105.out 2).trans rfl
            have hcz25_3 : wr.cell? ⟨gb105, 3, none⟩ = some (.int .i64 a0_6) := (blk_cell BK105.out 3).trans rfl
            have hcz25_4 : wr.cell? ⟨gb105, 4, none⟩ = some (.int .i64 a0_7) := (blk_cell BK105.out 4).trans rfl
            have hcz25_5 : wr.cell? ⟨gb105, 5, none⟩ = some (.slice A0_8 l0_8.length c0_8) := (blk_cell BK105.out 5).trans rfl
            have hcz25_6 : wr.cell? ⟨gb105, 6, none⟩ = some (.slice A0_9 l0_9.length c0_9) := (blk_cell BK105.out 6).trans rfl
            have hfz25_0 := blk_frozen BK105.out 0
            have hfz25_1 := blk_frozen BK105.out 1
            have hfz25_2 := blk_frozen BK105.out 2
            have hfz25_3 := blk_frozen BK105.out 3
            have hfz25_4 := blk_frozen BK105.out 4
            have hfz25_5 := blk_frozen BK105.out 5
            have hfz25_6 := blk_frozen BK105.out 6
            go_wp2
            go_ret
            exact ⟨by first | rfl | (simp [errW_none, errW_some] <;> rfl) | (simp [*, errW_none, errW_some] <;> rfl), by repeat (first | (with_reducible first | exact HB.out | apply below_alloc | apply pw_below_drewN | apply below_drew1 | refine below_set ?_ GE104.out | refine below_set ?_ GE105.out) | exact HB.out)⟩

end Go.Proofs.Ytpkckkmgnlhhcaa.PRouteSame
