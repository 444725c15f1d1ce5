-- Lean text by a program of this repo (wip/tools/printx.py), out of Lean's own print of the translation
import Derived.Test.YtpkckkmgnlhhcaaPPathReadsx0
namespace Go.Proofs.Ytpkckkmgnlhhcaa.PPathReads
open Go.RowKit Go.Proofs.YtpkckkmgnlhhcaaW.PrintWords Go.Proofs.YtpkckkmgnlhhcaaW.PrintLast Go.Proofs.YtpkckkmgnlhhcaaW.PrintMore
attribute [local go_sem] max2_int min2_int max_two min_two max_three min_three max_four min_four   -- for this text's walks alone
set_option linter.unusedVariables false
set_option linter.unusedSimpArgs false

/-! ### interregnumref05_GoodPath: function 16 -/
mutual
def interregnumref05_GoodPath.l0 : Nat → List (S38) → Int → Int → Option (Bool)
  | 0, _, _, _ => none
  | k + 1, x0, x3, x4 => if x4 < (x0.length : Int) then (if 0 ≤ x4 then (if (((rd_T38 x0 x4).f1).length : Int) < 1 then (interregnumref05_GoodPath.j1 k x0 x3 x4 true) else (interregnumref05_GoodPath.j1 k x0 x3 x4 (decide ((((rd_T38 x0 x4).f1).length : Int) > 255)))) else (none)) else (some (decide (x3 ≤ 64)))
def interregnumref05_GoodPath.j1 : Nat → List (S38) → Int → Int → Bool → Option (Bool)
  | 0, _, _, _, _ => none
  | k + 1, x0, x3, x4, x27 => if x27 = true then (some false) else (interregnumref05_GoodPath.l1 k x0 x3 x4 0)
def interregnumref05_GoodPath.l1 : Nat → List (S38) → Int → Int → Int → Option (Bool)
  | 0, _, _, _, _ => none
  | k + 1, x0, x3, x4, x5 => if 0 ≤ x4 then (if x4 < (x0.length : Int) then (if x5 < (((rd_T38 x0 x4).f1).length : Int) then (if 0 ≤ x5 then (if (rd ((rd_T38 x0 x4).f1) x5) < 1 then (some false) else (if (rd ((rd_T38 x0 x4).f1) x5) > 4294967295 then (some false) else (interregnumref05_GoodPath.l1 k x0 (wrap64 (x3 + 1)) x4 (wrap64 (x5 + 1))))) else (none)) else (interregnumref05_GoodPath.l0 k x0 x3 (wrap64 (x4 + 1)))) else (none)) else (none)
end
def interregnumref05_GoodPath.f (k : Nat) (l0 : List (S38)) : Option (Bool) := interregnumref05_GoodPath.l0 k l0 0 0
theorem interregnumref05_GoodPath.mono_l : ∀ k, (∀ y0 y1 y2, LeO (interregnumref05_GoodPath.l0 k y0 y1 y2) (interregnumref05_GoodPath.l0 (k + 1) y0 y1 y2)) ∧ (∀ y0 y1 y2 y3, LeO (interregnumref05_GoodPath.j1 k y0 y1 y2 y3) (interregnumref05_GoodPath.j1 (k + 1) y0 y1 y2 y3)) ∧ (∀ y0 y1 y2 y3, LeO (interregnumref05_GoodPath.l1 k y0 y1 y2 y3) (interregnumref05_GoodPath.l1 (k + 1) y0 y1 y2 y3))
  | 0 => ⟨fun _ _ _ r h => by simp [interregnumref05_GoodPath.l0] at h, fun _ _ _ _ r h => by simp [interregnumref05_GoodPath.j1] at h, fun _ _ _ _ r h => by simp [interregnumref05_GoodPath.l1] at h⟩
  | k + 1 => by
    obtain ⟨ih0, ih1, ih2⟩ := interregnumref05_GoodPath.mono_l k
    refine ⟨?_, ?_, ?_⟩
    · intro y0 y1 y2
      unfold interregnumref05_GoodPath.l0
      repeat' first
      | (with_reducible exact ih0 _ _ _)
      | (with_reducible exact ih1 _ _ _ _)
      | (with_reducible exact ih2 _ _ _ _)
      | (with_reducible exact LeO.refl _)
      | (with_reducible exact LeO.none _)
      | (with_reducible refine LeO.ite ?_ ?_)
      | (with_reducible refine LeO.bind ?_ (fun _ => ?_))
      | exact ih0 _ _ _
      | exact ih1 _ _ _ _
      | exact ih2 _ _ _ _
      | exact LeO.none _
      | refine LeO.ite ?_ ?_
      | refine LeO.bind ?_ (fun _ => ?_)
    · intro y0 y1 y2 y3
      unfold interregnumref05_GoodPath.j1
      repeat' first
      | (with_reducible exact ih0 _ _ _)
      | (with_reducible exact ih1 _ _ _ _)
      | (with_reducible exact ih2 _ _ _ _)
      | (with_reducible exact LeO.refl _)
      | (with_reducible exact LeO.none _)
      | (with_reducible refine LeO.ite ?_ ?_)
      | (with_reducible refine LeO.bind ?_ (fun _ => ?_))
      | exact ih0 _ _ _
      | exact ih1 _ _ _ _
      | exact ih2 _ _ _ _
      | exact LeO.none _
      | refine LeO.ite ?_ ?_
      | refine LeO.bind ?_ (fun _ => ?_)
    · intro y0 y1 y2 y3
      unfold interregnumref05_GoodPath.l1
      repeat' first
      | (with_reducible exact ih0 _ _ _)
      | (with_reducible exact ih1 _ _ _ _)
      | (with_reducible exact ih2 _ _ _ _)
      | (with_reducible exact LeO.refl _)
      | (with_reducible exact LeO.none _)
      | (with_reducible refine LeO.ite ?_ ?_)
      | (with_reducible refine LeO.bind ?_ (fun _ => ?_))
      | exact ih0 _ _ _
      | exact ih1 _ _ _ _
      | exact ih2 _ _ _ _
      | exact LeO.none _
      | refine LeO.ite ?_ ?_
      | refine LeO.bind ?_ (fun _ => ?_)
theorem interregnumref05_GoodPath.mono : ∀ a0 k, LeO (interregnumref05_GoodPath.f k a0) (interregnumref05_GoodPath.f (k + 1) a0) := by
  intro a0 k
  obtain ⟨ih0, ih1, ih2⟩ := interregnumref05_GoodPath.mono_l k
  unfold interregnumref05_GoodPath.f
  repeat' first
      | (with_reducible exact ih0 _ _ _)
      | (with_reducible exact ih1 _ _ _ _)
      | (with_reducible exact ih2 _ _ _ _)
      | (with_reducible exact LeO.refl _)
      | (with_reducible exact LeO.none _)
      | (with_reducible refine LeO.ite ?_ ?_)
      | (with_reducible refine LeO.bind ?_ (fun _ => ?_))
      | exact ih0 _ _ _
      | exact ih1 _ _ _ _
      | exact ih2 _ _ _ _
      | exact LeO.none _
      | refine LeO.ite ?_ ?_
      | refine LeO.bind ?_ (fun _ => ?_)
set_option maxHeartbeats 8000000 in
set_option maxRecDepth 100000 in
theorem interregnumref05_GoodPath.calls (k : Nat) (A0 : Option Addr) (c0 : Nat) (l0 : List (S38)) (r : Bool) (w : World) (hr0 : Kd.C k38 w A0 l0.length l0) (hc0 : l0.length ≤ c0) (h : interregnumref05_GoodPath.f k l0 = some r) :
    Calls Try.prog 16 #[.slice A0 l0.length c0] w fun e w' => e = .returned (.bool r) ∧ Drawn0 w w' := by
  have HR0 := Aside0.mk hr0
  have HC0 := Aside0.mk hc0
  clear hr0 hc0
  have H : (interregnumref05_GoodPath.l0 k l0 0 0) = some r := h
  clear h
  have H' := Aside0.mk H
  clear H
  go_enter Try.func16, Try.ntmps16
  go_wp2
  go_loopg [3, 4] k (fun kq v3 v4 w' => ∃ (x3_1 : Int) (x4_1 : Int), v3 = .int .i64 x3_1 ∧ v4 = .int .i64 x4_1 ∧ Aside0 (interregnumref05_GoodPath.l0 kq l0 x3_1 x4_1 = some r) ∧ Aside0 (kq ≤ k) ∧ Drawn0 w w')
  case atStart => exact ⟨(0), (0), (by first | rfl | (simp; done) | (simp [*]; done)), (by first | rfl | (simp; done) | (simp [*]; done)), H', ⟨Nat.le_refl _⟩, by repeat (first | exact Drawn0.refl _ | apply Drawn0.step)⟩
  case round =>
    clear H'
    try clear c1
    obtain ⟨x3_1, x4_1, rfl, rfl, HA, HK1, ⟨m1, rfl⟩⟩ := hrel
    cases gk with
    | zero => exact absurd HA.out (by simp [interregnumref05_GoodPath.l0])
    | succ k1 =>
      have H := HA.out
      clear HA
      simp only [interregnumref05_GoodPath.l0] at H
      by_cases c2 : x4_1 < (l0.length : Int)
      · rw [if_pos c2] at H
        have c2b0 : decide (x4_1 < (l0.length : Int)) = true := decide_eq_true c2
        clear c2
        have HC3 := Aside0.mk H
        clear H
        go_upto_region 5 with (fail)
        go_cut [27] (fun v27 wc => ∃ (kq : Nat) (x27_2 : Bool), v27 = .bool x27_2 ∧ Aside0 (interregnumref05_GoodPath.j1 kq l0 x3_1 x4_1 x27_2 = some r) ∧ Aside0 (kq ≤ k1) ∧ Drawn0 w wc)
        case first =>
          have H := HC3.out
          clear HC3
          by_cases c4 : 0 ≤ x4_1
          · rw [if_pos c4] at H
            have c4b0 : decide (0 ≤ x4_1) = true := decide_eq_true c4
            clear c4
            (first | rw [c4b0] | (simp only [i64_w, i32_w]; rw [c4b0]) | skip)
            by_cases c5 : (((rd_T38 l0 x4_1).f1).length : Int) < 1
            · rw [if_pos c5] at H
              have c5b0 : decide ((((rd_T38 l0 x4_1).f1).length : Int) < 1) = true := decide_eq_true c5
              have c5b1 : decide (((rd_T38 l0 x4_1).f1).length < 1) = true := decide_eq_true (by omega)
              clear c5
              have H' := Aside0.mk H
              clear H
              have p178 : 0 ≤ (x4_1 : Int) := of_decide_eq_true (by first | (with_reducible assumption) | assumption)
              have q178 : x4_1 < (l0.length : Int) := of_decide_eq_true (by first | (with_reducible assumption) | assumption)
              obtain ⟨ad178, A178_1, c178_1, e178, hx178_0, hx178_1, hl178_1, hi178_1⟩ := at_T38 HR0.out x4_1 p178 q178
              cases e178
              have HR178_1 := Aside0.mk hi178_1
              have HC178_1 := Aside0.mk hl178_1
              clear hi178_1 hl178_1
              replace p178 := eq_true p178
              replace q178 := eq_true q178
              go_wp2
              go_meet
              case rel => exact ⟨_, (true), (by first | rfl | (simp; done) | (simp [*]; done)), H', ⟨by have := HK1.out; first | omega | exact Nat.le_refl _⟩, by repeat (first | exact Drawn0.refl _ | apply Drawn0.step)⟩
            · rw [if_neg c5] at H
              have c5b0 : decide ((((rd_T38 l0 x4_1).f1).length : Int) < 1) = false := decide_eq_false c5
              have c5b1 : decide (((rd_T38 l0 x4_1).f1).length < 1) = false := decide_eq_false (by omega)
              clear c5
              have H' := Aside0.mk H
              clear H
              have p178 : 0 ≤ (x4_1 : Int) := of_decide_eq_true (by first | (with_reducible assumption) | assumption)
              have q178 : x4_1 < (l0.length : Int) := of_decide_eq_true (by first | (with_reducible assumption) | assumption)
              obtain ⟨ad178, A178_1, c178_1, e178, hx178_0, hx178_1, hl178_1, hi178_1⟩ := at_T38 HR0.out x4_1 p178 q178
              cases e178
              have HR178_1 := Aside0.mk hi178_1
              have HC178_1 := Aside0.mk hl178_1
              clear hi178_1 hl178_1
              replace p178 := eq_true p178
              replace q178 := eq_true q178
              have p179 : 0 ≤ (x4_1 : Int) := of_decide_eq_true (by first | (with_reducible assumption) | assumption)
              have q179 : x4_1 < (l0.length : Int) := of_decide_eq_true (by first | (with_reducible assumption) | assumption)
              obtain ⟨ad179, A179_1, c179_1, e179, hx179_0, hx179_1, hl179_1, hi179_1⟩ := at_T38 HR0.out x4_1 p179 q179
              obtain rfl : ad178 = ad179 := (by injection e179)
              have HR179_1 := Aside0.mk hi179_1
              have HC179_1 := Aside0.mk hl179_1
              clear hi179_1 hl179_1
              replace p179 := eq_true p179
              replace q179 := eq_true q179
              have ea_ := Option.some.inj (hx178_1.symm.trans hx179_1)
              injection ea_ with ea_ en_ ec_
              subst ea_
              subst ec_
              clear en_
              go_wp2
              go_meet
              case rel => exact ⟨_, (decide ((((rd_T38 l0 x4_1).f1).length : Int) > 255)), (by first | rfl | (simp; done) | (simp [*]; done)), H', ⟨by have := HK1.out; first | omega | exact Nat.le_refl _⟩, by repeat (first | exact Drawn0.refl _ | apply Drawn0.step)⟩
          · rw [if_neg c4] at H
            exact absurd H (by simp)
        case rest =>
          clear HC3
          try clear c1
          try clear p1
          try clear q1
          try clear hx1
          try clear c2
          try clear c2b0
          try clear p2
          try clear c4
          try clear c4b0
          try clear c5
          try clear c5b0
          try clear c5b1
          try clear hx178_0
          try clear hx178_1
          try clear hx179_0
          try clear hx179_1
          try clear p178
          try clear p179
          try clear q178
          try clear q179
          obtain ⟨kq, x27_2, rfl, HA, HJ2, ⟨mc2, rfl⟩⟩ := hcut
          cases kq with
          | zero => exact absurd HA.out (by simp [interregnumref05_GoodPath.j1])
          | succ kj2 =>
            have H := HA.out
            clear HA
            simp only [interregnumref05_GoodPath.j1] at H
            by_cases c6 : x27_2 = true
            · subst c6
              have H1 : (some false) = some r := by rw [if_pos rfl] at H; exact H
              clear H
              have H := H1
              clear H1
              obtain rfl := Option.some.inj H
              go_wp2
              go_ret
              exact ⟨by first | rfl | (simp; done) | (simp [*]; done), by repeat (first | exact Drawn0.refl _ | apply Drawn0.step)⟩
            · replace c6 := Bool.eq_false_iff.mpr c6
              subst c6
              have H1 : (interregnumref05_GoodPath.l1 kj2 l0 x3_1 x4_1 0) = some r := by rw [if_neg (show ¬ (false = true) by decide)] at H; exact H
              clear H
              have H := H1
              clear H1
              have H' := Aside0.mk H
              clear H
              go_wp2
              go_loopg [3, 5] kj2 (fun kq v3 v5 w' => ∃ (x3_3 : Int) (x5_3 : Int), v3 = .int .i64 x3_3 ∧ v5 = .int .i64 x5_3 ∧ Aside0 (interregnumref05_GoodPath.l1 kq l0 x3_3 x4_1 x5_3 = some r) ∧ Aside0 (kq ≤ kj2) ∧ Drawn0 w w')
              case atStart => exact ⟨(x3_1), (0), (by first | rfl | (simp; done) | (simp [*]; done)), (by first | rfl | (simp; done) | (simp [*]; done)), H', ⟨Nat.le_refl _⟩, by repeat (first | exact Drawn0.refl _ | apply Drawn0.step)⟩
              case round =>
                clear H'
                try clear c1
                try clear p1
                try clear q1
                try clear hx1
                try clear c2
                try clear c2b0
                try clear p2
                try clear c4
                try clear c4b0
                try clear c5
                try clear c5b0
                try clear c5b1
                try clear c6
                try clear hx178_0
                try clear hx178_1
                try clear hx179_0
                try clear hx179_1
                try clear p1
                try clear p178
                try clear p179
                try clear p2
                try clear q1
                try clear q178
                try clear q179
                obtain ⟨x3_3, x5_3, rfl, rfl, HA, HK3, ⟨m3, rfl⟩⟩ := hrel
                cases gk with
                | zero => exact absurd HA.out (by simp [interregnumref05_GoodPath.l1])
                | succ k3 =>
                  have H := HA.out
                  clear HA
                  simp only [interregnumref05_GoodPath.l1] at H
                  by_cases c7 : 0 ≤ x4_1
                  · rw [if_pos c7] at H
                    have c7b0 : decide (0 ≤ x4_1) = true := decide_eq_true c7
                    clear c7
                    by_cases c8 : x4_1 < (l0.length : Int)
                    · rw [if_pos c8] at H
                      have c8b0 : decide (x4_1 < (l0.length : Int)) = true := decide_eq_true c8
                      clear c8
                      by_cases c9 : x5_3 < (((rd_T38 l0 x4_1).f1).length : Int)
                      · rw [if_pos c9] at H
                        have c9b0 : decide (x5_3 < (((rd_T38 l0 x4_1).f1).length : Int)) = true := decide_eq_true c9
                        clear c9
                        by_cases c10 : 0 ≤ x5_3
                        · rw [if_pos c10] at H
                          have c10b0 : decide (0 ≤ x5_3) = true := decide_eq_true c10
                          clear c10
                          by_cases c11 : (rd ((rd_T38 l0 x4_1).f1) x5_3) < 1
                          · rw [if_pos c11] at H
                            have c11b0 : decide ((rd ((rd_T38 l0 x4_1).f1) x5_3) < 1) = true := decide_eq_true c11
                            clear c11
                            obtain rfl := Option.some.inj H
                            have p180 : 0 ≤ (x4_1 : Int) := of_decide_eq_true (by first | (with_reducible assumption) | assumption)
                            have q180 : x4_1 < (l0.length : Int) := of_decide_eq_true (by first | (with_reducible assumption) | assumption)
                            obtain ⟨ad180, A180_1, c180_1, e180, hx180_0, hx180_1, hl180_1, hi180_1⟩ := at_T38 HR0.out x4_1 p180 q180
                            cases e180
                            have HR180_1 := Aside0.mk hi180_1
                            have HC180_1 := Aside0.mk hl180_1
                            clear hi180_1 hl180_1
                            replace p180 := eq_true p180
                            replace q180 := eq_true q180
                            have p181 : 0 ≤ (x4_1 : Int) := of_decide_eq_true (by first | (with_reducible assumption) | assumption)
                            have q181 : x4_1 < (l0.length : Int) := of_decide_eq_true (by first | (with_reducible assumption) | assumption)
                            obtain ⟨ad181, A181_1, c181_1, e181, hx181_0, hx181_1, hl181_1, hi181_1⟩ := at_T38 HR0.out x4_1 p181 q181
                            obtain rfl : ad180 = ad181 := (by injection e181)
                            have HR181_1 := Aside0.mk hi181_1
                            have HC181_1 := Aside0.mk hl181_1
                            clear hi181_1 hl181_1
                            replace p181 := eq_true p181
                            replace q181 := eq_true q181
                            have ea_ := Option.some.inj (hx180_1.symm.trans hx181_1)
                            injection ea_ with ea_ en_ ec_
                            subst ea_
                            subst ec_
                            clear en_
                            have p182 : 0 ≤ (x5_3 : Int) := of_decide_eq_true (by first | (with_reducible assumption) | assumption)
                            have q182 : x5_3 < (((rd_T38 l0 x4_1).f1).length : Int) := of_decide_eq_true (by first | (with_reducible assumption) | assumption)
                            obtain ⟨ad182, e182, hx182_0⟩ := Kd.at_int HR181_1.out x5_3 p182 q182
                            cases e182
                            replace p182 := eq_true p182
                            replace q182 := eq_true q182
                            go_wp2
                            go_ret
                            exact ⟨by first | rfl | (simp; done) | (simp [*]; done), by repeat (first | exact Drawn0.refl _ | apply Drawn0.step)⟩
                          · rw [if_neg c11] at H
                            have c11b0 : decide ((rd ((rd_T38 l0 x4_1).f1) x5_3) < 1) = false := decide_eq_false c11
                            clear c11
                            by_cases c12 : (rd ((rd_T38 l0 x4_1).f1) x5_3) > 4294967295
                            · rw [if_pos c12] at H
                              have c12b0 : decide (4294967295 < (rd ((rd_T38 l0 x4_1).f1) x5_3)) = true := decide_eq_true c12
                              clear c12
                              obtain rfl := Option.some.inj H
                              have p180 : 0 ≤ (x4_1 : Int) := of_decide_eq_true (by first | (with_reducible assumption) | assumption)
                              have q180 : x4_1 < (l0.length : Int) := of_decide_eq_true (by first | (with_reducible assumption) | assumption)
                              obtain ⟨ad180, A180_1, c180_1, e180, hx180_0, hx180_1, hl180_1, hi180_1⟩ := at_T38 HR0.out x4_1 p180 q180
                              cases e180
                              have HR180_1 := Aside0.mk hi180_1
                              have HC180_1 := Aside0.mk hl180_1
                              clear hi180_1 hl180_1
                              replace p180 := eq_true p180
                              replace q180 := eq_true q180
                              have p181 : 0 ≤ (x4_1 : Int) := of_decide_eq_true (by first | (with_reducible assumption) | assumption)
                              have q181 : x4_1 < (l0.length : Int) := of_decide_eq_true (by first | (with_reducible assumption) | assumption)
                              obtain ⟨ad181, A181_1, c181_1, e181, hx181_0, hx181_1, hl181_1, hi181_1⟩ := at_T38 HR0.out x4_1 p181 q181
                              obtain rfl : ad180 = ad181 := (by injection e181)
                              have HR181_1 := Aside0.mk hi181_1
                              have HC181_1 := Aside0.mk hl181_1
                              clear hi181_1 hl181_1
                              replace p181 := eq_true p181
                              replace q181 := eq_true q181
                              have ea_ := Option.some.inj (hx180_1.symm.trans hx181_1)
                              injection ea_ with ea_ en_ ec_
                              subst ea_
                              subst ec_
                              clear en_
                              have p182 : 0 ≤ (x5_3 : Int) := of_decide_eq_true (by first | (with_reducible assumption) | assumption)
                              have q182 : x5_3 < (((rd_T38 l0 x4_1).f1).length : Int) := of_decide_eq_true (by first | (with_reducible assumption) | assumption)
                              obtain ⟨ad182, e182, hx182_0⟩ := Kd.at_int HR181_1.out x5_3 p182 q182
                              cases e182
                              replace p182 := eq_true p182
                              replace q182 := eq_true q182
                              have p183 : 0 ≤ (x4_1 : Int) := of_decide_eq_true (by first | (with_reducible assumption) | assumption)
                              have q183 : x4_1 < (l0.length : Int) := of_decide_eq_true (by first | (with_reducible assumption) | assumption)
                              obtain ⟨ad183, A183_1, c183_1, e183, hx183_0, hx183_1, hl183_1, hi183_1⟩ := at_T38 HR0.out x4_1 p183 q183
                              obtain rfl : ad180 = ad183 := (by injection e183)
                              have HR183_1 := Aside0.mk hi183_1
                              have HC183_1 := Aside0.mk hl183_1
                              clear hi183_1 hl183_1
                              replace p183 := eq_true p183
                              replace q183 := eq_true q183
                              have ea_ := Option.some.inj (hx180_1.symm.trans hx183_1)
                              injection ea_ with ea_ en_ ec_
                              subst ea_
                              subst ec_
                              clear en_
                              have p184 : 0 ≤ (x5_3 : Int) := of_decide_eq_true (by first | (with_reducible assumption) | assumption)
                              have q184 : x5_3 < (((rd_T38 l0 x4_1).f1).length : Int) := of_decide_eq_true (by first | (with_reducible assumption) | assumption)
                              obtain ⟨ad184, e184, hx184_0⟩ := Kd.at_int HR183_1.out x5_3 p184 q184
                              cases e184
                              replace p184 := eq_true p184
                              replace q184 := eq_true q184
                              go_wp2
                              go_ret
                              exact ⟨by first | rfl | (simp; done) | (simp [*]; done), by repeat (first | exact Drawn0.refl _ | apply Drawn0.step)⟩
                            · rw [if_neg c12] at H
                              have c12b0 : decide (4294967295 < (rd ((rd_T38 l0 x4_1).f1) x5_3)) = false := decide_eq_false c12
                              clear c12
                              have H' := Aside0.mk H
                              clear H
                              have p180 : 0 ≤ (x4_1 : Int) := of_decide_eq_true (by first | (with_reducible assumption) | assumption)
                              have q180 : x4_1 < (l0.length : Int) := of_decide_eq_true (by first | (with_reducible assumption) | assumption)
                              obtain ⟨ad180, A180_1, c180_1, e180, hx180_0, hx180_1, hl180_1, hi180_1⟩ := at_T38 HR0.out x4_1 p180 q180
                              cases e180
                              have HR180_1 := Aside0.mk hi180_1
                              have HC180_1 := Aside0.mk hl180_1
                              clear hi180_1 hl180_1
                              replace p180 := eq_true p180
                              replace q180 := eq_true q180
                              have p181 : 0 ≤ (x4_1 : Int) := of_decide_eq_true (by first | (with_reducible assumption) | assumption)
                              have q181 : x4_1 < (l0.length : Int) := of_decide_eq_true (by first | (with_reducible assumption) | assumption)
                              obtain ⟨ad181, A181_1, c181_1, e181, hx181_0, hx181_1, hl181_1, hi181_1⟩ := at_T38 HR0.out x4_1 p181 q181
                              obtain rfl : ad180 = ad181 := (by injection e181)
                              have HR181_1 := Aside0.mk hi181_1
                              have HC181_1 := Aside0.mk hl181_1
                              clear hi181_1 hl181_1
                              replace p181 := eq_true p181
                              replace q181 := eq_true q181
                              have ea_ := Option.some.inj (hx180_1.symm.trans hx181_1)
                              injection ea_ with ea_ en_ ec_
                              subst ea_
                              subst ec_
                              clear en_
                              have p182 : 0 ≤ (x5_3 : Int) := of_decide_eq_true (by first | (with_reducible assumption) | assumption)
                              have q182 : x5_3 < (((rd_T38 l0 x4_1).f1).length : Int) := of_decide_eq_true (by first | (with_reducible assumption) | assumption)
                              obtain ⟨ad182, e182, hx182_0⟩ := Kd.at_int HR181_1.out x5_3 p182 q182
                              cases e182
                              replace p182 := eq_true p182
                              replace q182 := eq_true q182
                              have p183 : 0 ≤ (x4_1 : Int) := of_decide_eq_true (by first | (with_reducible assumption) | assumption)
                              have q183 : x4_1 < (l0.length : Int) := of_decide_eq_true (by first | (with_reducible assumption) | assumption)
                              obtain ⟨ad183, A183_1, c183_1, e183, hx183_0, hx183_1, hl183_1, hi183_1⟩ := at_T38 HR0.out x4_1 p183 q183
                              obtain rfl : ad180 = ad183 := (by injection e183)
                              have HR183_1 := Aside0.mk hi183_1
                              have HC183_1 := Aside0.mk hl183_1
                              clear hi183_1 hl183_1
                              replace p183 := eq_true p183
                              replace q183 := eq_true q183
                              have ea_ := Option.some.inj (hx180_1.symm.trans hx183_1)
                              injection ea_ with ea_ en_ ec_
                              subst ea_
                              subst ec_
                              clear en_
                              have p184 : 0 ≤ (x5_3 : Int) := of_decide_eq_true (by first | (with_reducible assumption) | assumption)
                              have q184 : x5_3 < (((rd_T38 l0 x4_1).f1).length : Int) := of_decide_eq_true (by first | (with_reducible assumption) | assumption)
                              obtain ⟨ad184, e184, hx184_0⟩ := Kd.at_int HR183_1.out x5_3 p184 q184
                              cases e184
                              replace p184 := eq_true p184
                              replace q184 := eq_true q184
                              go_wp2
                              go_roundg k3
                              case measure => have := HK1.out; have := HJ2.out; have := HK3.out; omega
                              case rel => exact ⟨(wrap64 (x3_3 + 1)), (wrap64 (x5_3 + 1)), (by first | rfl | (simp; done) | (simp [*]; done)), (by first | rfl | (simp; done) | (simp [*]; done)), H', ⟨by have := HK1.out; have := HJ2.out; have := HK3.out; omega⟩, by repeat (first | exact Drawn0.refl _ | apply Drawn0.step)⟩
                        · rw [if_neg c10] at H
                          exact absurd H (by simp)
                      · rw [if_neg c9] at H
                        have c9b0 : decide (x5_3 < (((rd_T38 l0 x4_1).f1).length : Int)) = false := decide_eq_false c9
                        clear c9
                        have H' := Aside0.mk H
                        clear H
                        have p180 : 0 ≤ (x4_1 : Int) := of_decide_eq_true (by first | (with_reducible assumption) | assumption)
                        have q180 : x4_1 < (l0.length : Int) := of_decide_eq_true (by first | (with_reducible assumption) | assumption)
                        obtain ⟨ad180, A180_1, c180_1, e180, hx180_0, hx180_1, hl180_1, hi180_1⟩ := at_T38 HR0.out x4_1 p180 q180
                        cases e180
                        have HR180_1 := Aside0.mk hi180_1
                        have HC180_1 := Aside0.mk hl180_1
                        clear hi180_1 hl180_1
                        replace p180 := eq_true p180
                        replace q180 := eq_true q180
                        go_wp2
                        go_roundg k3
                        case measure => have := HK1.out; have := HJ2.out; have := HK3.out; omega
                        case rel => exact ⟨(x3_3), (wrap64 (x4_1 + 1)), (by first | rfl | (simp; done) | (simp [*]; done)), (by first | rfl | (simp; done) | (simp [*]; done)), H', ⟨by have := HK1.out; have := HJ2.out; have := HK3.out; omega⟩, by repeat (first | exact Drawn0.refl _ | apply Drawn0.step)⟩
                    · rw [if_neg c8] at H
                      exact absurd H (by simp)
                  · rw [if_neg c7] at H
                    exact absurd H (by simp)
      · rw [if_neg c2] at H
        have c2b0 : decide (x4_1 < (l0.length : Int)) = false := decide_eq_false c2
        clear c2
        obtain rfl := Option.some.inj H
        go_wp2
        go_ret
        exact ⟨by first | rfl | (simp; done) | (simp [*]; done), by repeat (first | exact Drawn0.refl _ | apply Drawn0.step)⟩

/-! ### interregnumref01_Num: function 47 -/
def interregnumref01_Num.f (l0 : List Int) : Option (Int) := if 0 < (l0.length : Int) then (if 1 < (l0.length : Int) then (if 2 < (l0.length : Int) then (if 3 < (l0.length : Int) then (some (wrap64 ((wrap64 ((wrap64 ((wrap64 ((wrap64 (rd l0 0)) * 16777216)) + (wrap64 ((wrap64 (rd l0 1)) * 65536)))) + (wrap64 ((wrap64 (rd l0 2)) * 256)))) + (wrap64 (rd l0 3))))) else (none)) else (none)) else (none)) else (none)
set_option maxHeartbeats 8000000 in
set_option maxRecDepth 100000 in
theorem interregnumref01_Num.calls (A0 : Option Addr) (c0 : Nat) (l0 : List Int) (r : Int) (w : World) (hr0 : Kd.C (Kd.int .u8) w A0 l0.length l0) (hc0 : l0.length ≤ c0) (h : interregnumref01_Num.f l0 = some r) :
    Calls Try.prog 47 #[.slice A0 l0.length c0] w fun e w' => e = .returned (.int .i64 r) ∧ Drawn0 w w' := by
  have HR0 := Aside0.mk hr0
  have HC0 := Aside0.mk hc0
  clear hr0 hc0
  have H : (if 0 < (l0.length : Int) then (if 1 < (l0.length : Int) then (if 2 < (l0.length : Int) then (if 3 < (l0.length : Int) then (some (wrap64 ((wrap64 ((wrap64 ((wrap64 ((wrap64 (rd l0 0)) * 16777216)) + (wrap64 ((wrap64 (rd l0 1)) * 65536)))) + (wrap64 ((wrap64 (rd l0 2)) * 256)))) + (wrap64 (rd l0 3))))) else (none)) else (none)) else (none)) else (none)) = some r := h
  clear h
  by_cases c2 : 0 < (l0.length : Int)
  · rw [if_pos c2] at H
    have c2b0 : decide (0 < (l0.length : Int)) = true := decide_eq_true c2
    have c2b1 : decide (0 < l0.length) = true := decide_eq_true (by omega)
    clear c2
    by_cases c3 : 1 < (l0.length : Int)
    · rw [if_pos c3] at H
      have c3b0 : decide (1 < (l0.length : Int)) = true := decide_eq_true c3
      have c3b1 : decide (1 < l0.length) = true := decide_eq_true (by omega)
      clear c3
      by_cases c4 : 2 < (l0.length : Int)
      · rw [if_pos c4] at H
        have c4b0 : decide (2 < (l0.length : Int)) = true := decide_eq_true c4
        have c4b1 : decide (2 < l0.length) = true := decide_eq_true (by omega)
        clear c4
        by_cases c5 : 3 < (l0.length : Int)
        · rw [if_pos c5] at H
          have c5b0 : decide (3 < (l0.length : Int)) = true := decide_eq_true c5
          have c5b1 : decide (3 < l0.length) = true := decide_eq_true (by omega)
          clear c5
          obtain rfl := Option.some.inj H
          have p185 : 0 ≤ (0 : Int) := (by omega)
          have q185 : 0 < (l0.length : Int) := of_decide_eq_true (by first | (with_reducible assumption) | assumption)
          obtain ⟨ad185, e185, hx185_0⟩ := Kd.at_int HR0.out 0 p185 q185
          cases e185
          have qi185 : (0 < l0.length) = True := eq_true (by omega)
          (try rw [show ((0 : Int)).toNat = 0 from rfl] at hx185_0)
          (try rw [Addr.add_zero'] at hx185_0)
          replace p185 := eq_true p185
          replace q185 := eq_true q185
          have p186 : 0 ≤ (1 : Int) := (by omega)
          have q186 : 1 < (l0.length : Int) := of_decide_eq_true (by first | (with_reducible assumption) | assumption)
          obtain ⟨ad186, e186, hx186_0⟩ := Kd.at_int HR0.out 1 p186 q186
          obtain rfl : ad185 = ad186 := (by injection e186)
          (try simp only [show (1 : Int).toNat = 1 from rfl, Nat.reduceMul, Nat.reduceEqDiff, Go.Addr.add, ↓reduceIte] at hx186_0)
          have qi186 : (1 < l0.length) = True := eq_true (by omega)
          (try rw [show ((1 : Int)).toNat = 1 from rfl] at hx186_0)
          replace p186 := eq_true p186
          replace q186 := eq_true q186
          have p187 : 0 ≤ (2 : Int) := (by omega)
          have q187 : 2 < (l0.length : Int) := of_decide_eq_true (by first | (with_reducible assumption) | assumption)
          obtain ⟨ad187, e187, hx187_0⟩ := Kd.at_int HR0.out 2 p187 q187
          obtain rfl : ad185 = ad187 := (by injection e187)
          (try simp only [show (2 : Int).toNat = 2 from rfl, Nat.reduceMul, Nat.reduceEqDiff, Go.Addr.add, ↓reduceIte] at hx187_0)
          have qi187 : (2 < l0.length) = True := eq_true (by omega)
          (try rw [show ((2 : Int)).toNat = 2 from rfl] at hx187_0)
          replace p187 := eq_true p187
          replace q187 := eq_true q187
          have p188 : 0 ≤ (3 : Int) := (by omega)
          have q188 : 3 < (l0.length : Int) := of_decide_eq_true (by first | (with_reducible assumption) | assumption)
          obtain ⟨ad188, e188, hx188_0⟩ := Kd.at_int HR0.out 3 p188 q188
          obtain rfl : ad185 = ad188 := (by injection e188)
          (try simp only [show (3 : Int).toNat = 3 from rfl, Nat.reduceMul, Nat.reduceEqDiff, Go.Addr.add, ↓reduceIte] at hx188_0)
          have qi188 : (3 < l0.length) = True := eq_true (by omega)
          (try rw [show ((3 : Int)).toNat = 3 from rfl] at hx188_0)
          replace p188 := eq_true p188
          replace q188 := eq_true q188
          go_enter Try.func47, Try.ntmps47
          go_wp2
          repeat (go_quiet (fail); try go_wp2)
          go_ret
          exact ⟨by first | rfl | (simp; done) | (simp [*]; done), by repeat (first | exact Drawn0.refl _ | apply Drawn0.step)⟩
        · rw [if_neg c5] at H
          exact absurd H (by simp)
      · rw [if_neg c4] at H
        exact absurd H (by simp)
    · rw [if_neg c3] at H
      exact absurd H (by simp)
  · rw [if_neg c2] at H
    exact absurd H (by simp)

end Go.Proofs.Ytpkckkmgnlhhcaa.PPathReads
