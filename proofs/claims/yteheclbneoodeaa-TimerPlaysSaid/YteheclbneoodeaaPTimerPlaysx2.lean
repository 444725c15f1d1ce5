-- Lean text by a program of this repo (wip/tools/printx.py), out of Lean's own print of the translation
import Derived.Test.YteheclbneoodeaaPTimerPlaysx0
import Derived.Test.YteheclbneoodeaaPTimerPlaysx1
namespace Go.Proofs.Yteheclbneoodeaa.PTimerPlays
open Go.RowKit Go.Proofs.YteheclbneoodeaaW.PrintWords Go.Proofs.YteheclbneoodeaaW.PrintLast Go.Proofs.YteheclbneoodeaaW.PrintMore
attribute [local go_sem] max2_int min2_int max_two min_two max_three min_three max_four min_four   -- for this text's walks alone
set_option linter.unusedVariables false
set_option linter.unusedSimpArgs false

/-! ### interregnumlaw17_TimerPlays: function 4 -/
mutual
def TP.l0 : Nat → List (S36) → List ByteArray → List Int → Int → Timer.TimerM → Option (Bool)
  | 0, _, _, _, _, _ => none
  | k + 1, x0, x4, x5, x6, x115000 => if x6 < (x0.length : Int) then (if 0 ≤ x6 then (TP.l1 k x0 x4 x5 x6 (-1) 0 x115000 ((rd_T36 x0 x6).f0) ((rd_T36 x0 x6).f1) ((rd_T36 x0 x6).f2)) else (none)) else ((interregnumlaw17_answers.f).bind fun t184 => (some t184))
def TP.l1 : Nat → List (S36) → List ByteArray → List Int → Int → Int → Int → Timer.TimerM → Int → Int → ByteArray → Option (Bool)
  | 0, _, _, _, _, _, _, _, _, _, _ => none
  | k + 1, x0, x4, x5, x6, x8, x9, x115000, x117000, x117001, x117002 => if x9 < (x4.length : Int) then (if 0 ≤ x9 then (if (rdOf ByteArray.empty x4 x9).toList = x117002.toList then (TP.l1 k x0 x4 x5 x6 x9 (wrap64 (x9 + 1)) x115000 x117000 x117001 x117002) else (TP.l1 k x0 x4 x5 x6 x8 (wrap64 (x9 + 1)) x115000 x117000 x117001 x117002)) else (none)) else ((timer_Timers_At.f x115000 x117002).bind fun bt118 => (if (bt118.2.1 != (decide (x8 ≥ 0))) = true then (TP.j2 k x0 x4 x5 x6 x8 true bt118.2.2 x117000 x117001 x117002) else (if bt118.2.1 = true then (if 0 ≤ x8 then (if x8 < (x5.length : Int) then (if bt118.1 = (rd x5 x8) then (TP.j2 k x0 x4 x5 x6 x8 false bt118.2.2 x117000 x117001 x117002) else (TP.j2 k x0 x4 x5 x6 x8 true bt118.2.2 x117000 x117001 x117002)) else (none)) else (none)) else (TP.j2 k x0 x4 x5 x6 x8 (bt118.1 != 0) bt118.2.2 x117000 x117001 x117002))))
def TP.j2 : Nat → List (S36) → List ByteArray → List Int → Int → Int → Bool → Timer.TimerM → Int → Int → ByteArray → Option (Bool)
  | 0, _, _, _, _, _, _, _, _, _, _ => none
  | k + 1, x0, x4, x5, x6, x8, x74, x115000, x117000, x117001, x117002 => if x74 = true then (some false) else (if x117000 = 0 then ((timer_Timers_Set.f x115000 x117002 x117001).bind fun t122 => (if x8 ≥ 0 then (if 0 ≤ x8 then (if x8 < (x5.length : Int) then (TP.l0 k x0 x4 (x5.set (x8 : Int).toNat x117001) (wrap64 (x6 + 1)) t122) else (none)) else (none)) else ((some (([x117002] : List ByteArray) : List ByteArray)).bind fun y124 => (if x4.length + y124.length < 8796093022208 then ((some (([x117001] : List Int) : List Int)).bind fun y130 => (if x5.length + y130.length < 17592186044416 then (TP.l0 k x0 (x4 ++ y124) (x5 ++ y130) (wrap64 (x6 + 1)) t122) else (none))) else (none))))) else (if x117000 = 1 then ((timer_Timers_Stop.f x115000 x117002).bind fun t136 => (TP.j6 k x0 x4 x5 x6 x8 t136)) else (TP.l2 k x0 x4 x5 x6 (-1) 0 x115000 x117000 x117001 x117002)))
def TP.j6 : Nat → List (S36) → List ByteArray → List Int → Int → Int → Timer.TimerM → Option (Bool)
  | 0, _, _, _, _, _, _ => none
  | k + 1, x0, x4, x5, x6, x8, x115000 => if x8 ≥ 0 then ((some (([] : List ByteArray) : List ByteArray)).bind fun y150 => (if 0 ≤ x8 then (if x8 ≤ (x4.length : Int) then ((some (x4.take (x8 : Int).toNat : List ByteArray)).bind fun y153 => (if y150.length + y153.length < 8796093022208 then ((some (y150 ++ y153 : List ByteArray)).bind fun y157 => (if 0 ≤ (wrap64 (x8 + 1)) then (if (wrap64 (x8 + 1)) ≤ (x4.length : Int) then ((some (x4.drop ((wrap64 (x8 + 1)) : Int).toNat : List ByteArray)).bind fun y160 => (if y157.length + y160.length < 8796093022208 then ((some (([] : List Int) : List Int)).bind fun y167 => (if x8 ≤ (x5.length : Int) then ((some (x5.take (x8 : Int).toNat : List Int)).bind fun y170 => (if y167.length + y170.length < 17592186044416 then ((some (y167 ++ y170 : List Int)).bind fun y174 => (if (wrap64 (x8 + 1)) ≤ (x5.length : Int) then ((some (x5.drop ((wrap64 (x8 + 1)) : Int).toNat : List Int)).bind fun y177 => (if y174.length + y177.length < 17592186044416 then (TP.l0 k x0 (y157 ++ y160) (y174 ++ y177) (wrap64 (x6 + 1)) x115000) else (none))) else (none))) else (none))) else (none))) else (none))) else (none)) else (none))) else (none))) else (none)) else (none))) else (TP.l0 k x0 x4 x5 (wrap64 (x6 + 1)) x115000)
def TP.l2 : Nat → List (S36) → List ByteArray → List Int → Int → Int → Int → Timer.TimerM → Int → Int → ByteArray → Option (Bool)
  | 0, _, _, _, _, _, _, _, _, _, _ => none
  | k + 1, x0, x4, x5, x6, x8, x12, x115000, x117000, x117001, x117002 => if x12 < (x4.length : Int) then (if 0 ≤ x12 then (if x12 < (x5.length : Int) then (if (rd x5 x12) ≤ x117001 then (if x8 < 0 then (TP.j4 k x0 x4 x5 x6 x8 x12 true x115000 x117000 x117001 x117002) else (if 0 ≤ x8 then (if x8 < (x5.length : Int) then (if (rd x5 x12) < (rd x5 x8) then (TP.j4 k x0 x4 x5 x6 x8 x12 true x115000 x117000 x117001 x117002) else (if (rd x5 x12) = (rd x5 x8) then (if x8 < (x4.length : Int) then (TP.j4 k x0 x4 x5 x6 x8 x12 (Op.bytesLess ((rdOf ByteArray.empty x4 x12).toList) ((rdOf ByteArray.empty x4 x8).toList)) x115000 x117000 x117001 x117002) else (none)) else (TP.j4 k x0 x4 x5 x6 x8 x12 false x115000 x117000 x117001 x117002))) else (none)) else (none))) else (TP.j4 k x0 x4 x5 x6 x8 x12 false x115000 x117000 x117001 x117002)) else (none)) else (none)) else ((timer_Timers_Due.f x115000 x117001).bind fun bt144 => (if (bt144.2.2.1 != (decide (x8 ≥ 0))) = true then (TP.j5 k x0 x4 x5 x6 x8 true bt144.2.2.2) else (if bt144.2.2.1 = true then (if 0 ≤ x8 then (if x8 < (x4.length : Int) then (if bt144.1.toList = (rdOf ByteArray.empty x4 x8).toList then (if x8 < (x5.length : Int) then (if bt144.2.1 = (rd x5 x8) then (TP.j5 k x0 x4 x5 x6 x8 false bt144.2.2.2) else (TP.j5 k x0 x4 x5 x6 x8 true bt144.2.2.2)) else (none)) else (TP.j5 k x0 x4 x5 x6 x8 true bt144.2.2.2)) else (none)) else (none)) else (if bt144.1.toList = ([] : List UInt8) then (TP.j5 k x0 x4 x5 x6 x8 (bt144.2.1 != 0) bt144.2.2.2) else (TP.j5 k x0 x4 x5 x6 x8 true bt144.2.2.2)))))
def TP.j4 : Nat → List (S36) → List ByteArray → List Int → Int → Int → Int → Bool → Timer.TimerM → Int → Int → ByteArray → Option (Bool)
  | 0, _, _, _, _, _, _, _, _, _, _, _ => none
  | k + 1, x0, x4, x5, x6, x8, x12, x126, x115000, x117000, x117001, x117002 => if x126 = true then (TP.l2 k x0 x4 x5 x6 x12 (wrap64 (x12 + 1)) x115000 x117000 x117001 x117002) else (TP.l2 k x0 x4 x5 x6 x8 (wrap64 (x12 + 1)) x115000 x117000 x117001 x117002)
def TP.j5 : Nat → List (S36) → List ByteArray → List Int → Int → Int → Bool → Timer.TimerM → Option (Bool)
  | 0, _, _, _, _, _, _, _ => none
  | k + 1, x0, x4, x5, x6, x8, x170, x115000 => if x170 = true then (some false) else (TP.j6 k x0 x4 x5 x6 x8 x115000)
end
def TP.f (k : Nat) (l0 : List (S36)) : Option (Bool) := if (l0.length : Int) > 100 then ((interregnumlaw17_answers.f).bind fun t112 => (some t112)) else ((timer_New.f).bind fun t113 => (TP.l0 k l0 ([] : List ByteArray) ([] : List Int) 0 t113))
theorem TP.mono_l : ∀ k, (∀ y0 y1 y2 y3 y4, LeO (TP.l0 k y0 y1 y2 y3 y4) (TP.l0 (k + 1) y0 y1 y2 y3 y4)) ∧ (∀ y0 y1 y2 y3 y4 y5 y6 y7 y8 y9, LeO (TP.l1 k y0 y1 y2 y3 y4 y5 y6 y7 y8 y9) (TP.l1 (k + 1) y0 y1 y2 y3 y4 y5 y6 y7 y8 y9)) ∧ (∀ y0 y1 y2 y3 y4 y5 y6 y7 y8 y9, LeO (TP.j2 k y0 y1 y2 y3 y4 y5 y6 y7 y8 y9) (TP.j2 (k + 1) y0 y1 y2 y3 y4 y5 y6 y7 y8 y9)) ∧ (∀ y0 y1 y2 y3 y4 y5, LeO (TP.j6 k y0 y1 y2 y3 y4 y5) (TP.j6 (k + 1) y0 y1 y2 y3 y4 y5)) ∧ (∀ y0 y1 y2 y3 y4 y5 y6 y7 y8 y9, LeO (TP.l2 k y0 y1 y2 y3 y4 y5 y6 y7 y8 y9) (TP.l2 (k + 1) y0 y1 y2 y3 y4 y5 y6 y7 y8 y9)) ∧ (∀ y0 y1 y2 y3 y4 y5 y6 y7 y8 y9 y10, LeO (TP.j4 k y0 y1 y2 y3 y4 y5 y6 y7 y8 y9 y10) (TP.j4 (k + 1) y0 y1 y2 y3 y4 y5 y6 y7 y8 y9 y10)) ∧ (∀ y0 y1 y2 y3 y4 y5 y6, LeO (TP.j5 k y0 y1 y2 y3 y4 y5 y6) (TP.j5 (k + 1) y0 y1 y2 y3 y4 y5 y6))
  | 0 => ⟨fun _ _ _ _ _ r h => by simp [TP.l0] at h, fun _ _ _ _ _ _ _ _ _ _ r h => by simp [TP.l1] at h, fun _ _ _ _ _ _ _ _ _ _ r h => by simp [TP.j2] at h, fun _ _ _ _ _ _ r h => by simp [TP.j6] at h, fun _ _ _ _ _ _ _ _ _ _ r h => by simp [TP.l2] at h, fun _ _ _ _ _ _ _ _ _ _ _ r h => by simp [TP.j4] at h, fun _ _ _ _ _ _ _ r h => by simp [TP.j5] at h⟩
  | k + 1 => by
    obtain ⟨ih0, ih1, ih2, ih3, ih4, ih5, ih6⟩ := TP.mono_l k
    refine ⟨?_, ?_, ?_, ?_, ?_, ?_, ?_⟩
    · intro y0 y1 y2 y3 y4
      unfold TP.l0
      repeat' first
      | (with_reducible exact ih0 _ _ _ _ _)
      | (with_reducible exact ih1 _ _ _ _ _ _ _ _ _ _)
      | (with_reducible exact ih2 _ _ _ _ _ _ _ _ _ _)
      | (with_reducible exact ih3 _ _ _ _ _ _)
      | (with_reducible exact ih4 _ _ _ _ _ _ _ _ _ _)
      | (with_reducible exact ih5 _ _ _ _ _ _ _ _ _ _ _)
      | (with_reducible exact ih6 _ _ _ _ _ _ _)
      | (with_reducible exact LeO.refl _)
      | (with_reducible exact LeO.none _)
      | (with_reducible refine LeO.ite ?_ ?_)
      | (with_reducible refine LeO.bind ?_ (fun _ => ?_))
      | exact ih0 _ _ _ _ _
      | exact ih1 _ _ _ _ _ _ _ _ _ _
      | exact ih2 _ _ _ _ _ _ _ _ _ _
      | exact ih3 _ _ _ _ _ _
      | exact ih4 _ _ _ _ _ _ _ _ _ _
      | exact ih5 _ _ _ _ _ _ _ _ _ _ _
      | exact ih6 _ _ _ _ _ _ _
      | exact LeO.none _
      | refine LeO.ite ?_ ?_
      | refine LeO.bind ?_ (fun _ => ?_)
    · intro y0 y1 y2 y3 y4 y5 y6 y7 y8 y9
      unfold TP.l1
      repeat' first
      | (with_reducible exact ih0 _ _ _ _ _)
      | (with_reducible exact ih1 _ _ _ _ _ _ _ _ _ _)
      | (with_reducible exact ih2 _ _ _ _ _ _ _ _ _ _)
      | (with_reducible exact ih3 _ _ _ _ _ _)
      | (with_reducible exact ih4 _ _ _ _ _ _ _ _ _ _)
      | (with_reducible exact ih5 _ _ _ _ _ _ _ _ _ _ _)
      | (with_reducible exact ih6 _ _ _ _ _ _ _)
      | (with_reducible exact LeO.refl _)
      | (with_reducible exact LeO.none _)
      | (with_reducible refine LeO.ite ?_ ?_)
      | (with_reducible refine LeO.bind ?_ (fun _ => ?_))
      | exact ih0 _ _ _ _ _
      | exact ih1 _ _ _ _ _ _ _ _ _ _
      | exact ih2 _ _ _ _ _ _ _ _ _ _
      | exact ih3 _ _ _ _ _ _
      | exact ih4 _ _ _ _ _ _ _ _ _ _
      | exact ih5 _ _ _ _ _ _ _ _ _ _ _
      | exact ih6 _ _ _ _ _ _ _
      | exact LeO.none _
      | refine LeO.ite ?_ ?_
      | refine LeO.bind ?_ (fun _ => ?_)
    · intro y0 y1 y2 y3 y4 y5 y6 y7 y8 y9
      unfold TP.j2
      repeat' first
      | (with_reducible exact ih0 _ _ _ _ _)
      | (with_reducible exact ih1 _ _ _ _ _ _ _ _ _ _)
      | (with_reducible exact ih2 _ _ _ _ _ _ _ _ _ _)
      | (with_reducible exact ih3 _ _ _ _ _ _)
      | (with_reducible exact ih4 _ _ _ _ _ _ _ _ _ _)
      | (with_reducible exact ih5 _ _ _ _ _ _ _ _ _ _ _)
      | (with_reducible exact ih6 _ _ _ _ _ _ _)
      | (with_reducible exact LeO.refl _)
      | (with_reducible exact LeO.none _)
      | (with_reducible refine LeO.ite ?_ ?_)
      | (with_reducible refine LeO.bind ?_ (fun _ => ?_))
      | exact ih0 _ _ _ _ _
      | exact ih1 _ _ _ _ _ _ _ _ _ _
      | exact ih2 _ _ _ _ _ _ _ _ _ _
      | exact ih3 _ _ _ _ _ _
      | exact ih4 _ _ _ _ _ _ _ _ _ _
      | exact ih5 _ _ _ _ _ _ _ _ _ _ _
      | exact ih6 _ _ _ _ _ _ _
      | exact LeO.none _
      | refine LeO.ite ?_ ?_
      | refine LeO.bind ?_ (fun _ => ?_)
    · intro y0 y1 y2 y3 y4 y5
      unfold TP.j6
      repeat' first
      | (with_reducible exact ih0 _ _ _ _ _)
      | (with_reducible exact ih1 _ _ _ _ _ _ _ _ _ _)
      | (with_reducible exact ih2 _ _ _ _ _ _ _ _ _ _)
      | (with_reducible exact ih3 _ _ _ _ _ _)
      | (with_reducible exact ih4 _ _ _ _ _ _ _ _ _ _)
      | (with_reducible exact ih5 _ _ _ _ _ _ _ _ _ _ _)
      | (with_reducible exact ih6 _ _ _ _ _ _ _)
      | (with_reducible exact LeO.refl _)
      | (with_reducible exact LeO.none _)
      | (with_reducible refine LeO.ite ?_ ?_)
      | (with_reducible refine LeO.bind ?_ (fun _ => ?_))
      | exact ih0 _ _ _ _ _
      | exact ih1 _ _ _ _ _ _ _ _ _ _
      | exact ih2 _ _ _ _ _ _ _ _ _ _
      | exact ih3 _ _ _ _ _ _
      | exact ih4 _ _ _ _ _ _ _ _ _ _
      | exact ih5 _ _ _ _ _ _ _ _ _ _ _
      | exact ih6 _ _ _ _ _ _ _
      | exact LeO.none _
      | refine LeO.ite ?_ ?_
      | refine LeO.bind ?_ (fun _ => ?_)
    · intro y0 y1 y2 y3 y4 y5 y6 y7 y8 y9
      unfold TP.l2
      repeat' first
      | (with_reducible exact ih0 _ _ _ _ _)
      | (with_reducible exact ih1 _ _ _ _ _ _ _ _ _ _)
      | (with_reducible exact ih2 _ _ _ _ _ _ _ _ _ _)
      | (with_reducible exact ih3 _ _ _ _ _ _)
      | (with_reducible exact ih4 _ _ _ _ _ _ _ _ _ _)
      | (with_reducible exact ih5 _ _ _ _ _ _ _ _ _ _ _)
      | (with_reducible exact ih6 _ _ _ _ _ _ _)
      | (with_reducible exact LeO.refl _)
      | (with_reducible exact LeO.none _)
      | (with_reducible refine LeO.ite ?_ ?_)
      | (with_reducible refine LeO.bind ?_ (fun _ => ?_))
      | exact ih0 _ _ _ _ _
      | exact ih1 _ _ _ _ _ _ _ _ _ _
      | exact ih2 _ _ _ _ _ _ _ _ _ _
      | exact ih3 _ _ _ _ _ _
      | exact ih4 _ _ _ _ _ _ _ _ _ _
      | exact ih5 _ _ _ _ _ _ _ _ _ _ _
      | exact ih6 _ _ _ _ _ _ _
      | exact LeO.none _
      | refine LeO.ite ?_ ?_
      | refine LeO.bind ?_ (fun _ => ?_)
    · intro y0 y1 y2 y3 y4 y5 y6 y7 y8 y9 y10
      unfold TP.j4
      repeat' first
      | (with_reducible exact ih0 _ _ _ _ _)
      | (with_reducible exact ih1 _ _ _ _ _ _ _ _ _ _)
      | (with_reducible exact ih2 _ _ _ _ _ _ _ _ _ _)
      | (with_reducible exact ih3 _ _ _ _ _ _)
      | (with_reducible exact ih4 _ _ _ _ _ _ _ _ _ _)
      | (with_reducible exact ih5 _ _ _ _ _ _ _ _ _ _ _)
      | (with_reducible exact ih6 _ _ _ _ _ _ _)
      | (with_reducible exact LeO.refl _)
      | (with_reducible exact LeO.none _)
      | (with_reducible refine LeO.ite ?_ ?_)
      | (with_reducible refine LeO.bind ?_ (fun _ => ?_))
      | exact ih0 _ _ _ _ _
      | exact ih1 _ _ _ _ _ _ _ _ _ _
      | exact ih2 _ _ _ _ _ _ _ _ _ _
      | exact ih3 _ _ _ _ _ _
      | exact ih4 _ _ _ _ _ _ _ _ _ _
      | exact ih5 _ _ _ _ _ _ _ _ _ _ _
      | exact ih6 _ _ _ _ _ _ _
      | exact LeO.none _
      | refine LeO.ite ?_ ?_
      | refine LeO.bind ?_ (fun _ => ?_)
    · intro y0 y1 y2 y3 y4 y5 y6
      unfold TP.j5
      repeat' first
      | (with_reducible exact ih0 _ _ _ _ _)
      | (with_reducible exact ih1 _ _ _ _ _ _ _ _ _ _)
      | (with_reducible exact ih2 _ _ _ _ _ _ _ _ _ _)
      | (with_reducible exact ih3 _ _ _ _ _ _)
      | (with_reducible exact ih4 _ _ _ _ _ _ _ _ _ _)
      | (with_reducible exact ih5 _ _ _ _ _ _ _ _ _ _ _)
      | (with_reducible exact ih6 _ _ _ _ _ _ _)
      | (with_reducible exact LeO.refl _)
      | (with_reducible exact LeO.none _)
      | (with_reducible refine LeO.ite ?_ ?_)
      | (with_reducible refine LeO.bind ?_ (fun _ => ?_))
      | exact ih0 _ _ _ _ _
      | exact ih1 _ _ _ _ _ _ _ _ _ _
      | exact ih2 _ _ _ _ _ _ _ _ _ _
      | exact ih3 _ _ _ _ _ _
      | exact ih4 _ _ _ _ _ _ _ _ _ _
      | exact ih5 _ _ _ _ _ _ _ _ _ _ _
      | exact ih6 _ _ _ _ _ _ _
      | exact LeO.none _
      | refine LeO.ite ?_ ?_
      | refine LeO.bind ?_ (fun _ => ?_)
theorem TP.mono : ∀ a0 k, LeO (TP.f k a0) (TP.f (k + 1) a0) := by
  intro a0 k
  obtain ⟨ih0, ih1, ih2, ih3, ih4, ih5, ih6⟩ := TP.mono_l k
  unfold TP.f
  repeat' first
      | (with_reducible exact ih0 _ _ _ _ _)
      | (with_reducible exact ih1 _ _ _ _ _ _ _ _ _ _)
      | (with_reducible exact ih2 _ _ _ _ _ _ _ _ _ _)
      | (with_reducible exact ih3 _ _ _ _ _ _)
      | (with_reducible exact ih4 _ _ _ _ _ _ _ _ _ _)
      | (with_reducible exact ih5 _ _ _ _ _ _ _ _ _ _ _)
      | (with_reducible exact ih6 _ _ _ _ _ _ _)
      | (with_reducible exact LeO.refl _)
      | (with_reducible exact LeO.none _)
      | (with_reducible refine LeO.ite ?_ ?_)
      | (with_reducible refine LeO.bind ?_ (fun _ => ?_))
      | exact ih0 _ _ _ _ _
      | exact ih1 _ _ _ _ _ _ _ _ _ _
      | exact ih2 _ _ _ _ _ _ _ _ _ _
      | exact ih3 _ _ _ _ _ _
      | exact ih4 _ _ _ _ _ _ _ _ _ _
      | exact ih5 _ _ _ _ _ _ _ _ _ _ _
      | exact ih6 _ _ _ _ _ _ _
      | exact LeO.none _
      | refine LeO.ite ?_ ?_
      | refine LeO.bind ?_ (fun _ => ?_)
def TP.T24 : Bool × List (List Nat × List Nat) := (true, [([], []), ([], []), ([0, 1], [0, 1]), ([2], [2]), ([], []), ([4], [4]), ([3, 5], [3, 5]), ([6], [6]), ([7], [7]), ([8, 7], [7, 8]), ([9, 7, 7], [7, 9]), ([10], [10]), ([10], [10]), ([11, 12, 10], [10, 11, 12]), ([13, 10], [10, 13]), ([10], [10]), ([10], [10]), ([15, 16, 10], [10, 15, 16]), ([17, 10], [10, 17]), ([14, 18, 10], [10, 14, 18]), ([10, 19, 7], [7, 10, 19]), ([20, 10, 7], [7, 20]), ([21], [21]), ([21], [21]), ([22, 23, 21], [21, 22, 23]), ([24, 21], [21, 24]), ([21], [21]), ([21], [21]), ([26, 27, 21], [21, 26, 27]), ([28, 21], [21, 28]), ([25, 29, 21], [21, 25, 29]), ([30, 21, 21], [21, 30]), ([31], [31]), ([31], [31]), ([32, 33, 31], [31, 32, 33]), ([34, 31], [31, 34]), ([31], [31]), ([31], [31]), ([36, 37, 31], [31, 36, 37]), ([38, 31], [31, 38]), ([35, 39, 31], [31, 35, 39]), ([31, 40, 21], [21, 31, 40]), ([21, 41, 7], [7, 21, 41]), ([7, 42], [7, 42])])
def TP.B24 : List Nat := [0, 0, 3, 7, 0, 16, 63, 127, 255, 511, 1023, 2047, 2047, 8191, 16383, 2047, 2047, 100351, 231423, 524287, 1048575, 2097151, 4194303, 4194303, 16777215, 33554431, 4194303, 4194303, 205520895, 473956351, 1073741823, 2147483647, 4294967295, 4294967295, 17179869183, 34359738367, 4294967295, 4294967295, 210453397503, 485331304447, 1099511627775, 2199023255551, 4398046511103, 8796093022207]
theorem TP.tab24 : rtab .any (opsOf Try.f4 24) = TP.T24 := by kernel_rfl
theorem TP.bits24 : waitsOk TP.T24.2 TP.B24 = true := by kernel_rfl
def TP.T33 : Bool × List (List Nat × List Nat) := (true, [([], []), ([], []), ([1], [1]), ([2], [2]), ([0, 3], [0, 3]), ([], []), ([], []), ([6], [6]), ([7], [7]), ([5, 8, 4], [5, 8]), ([4, 9, 0, 1, 2, 3, 4], [0, 4]), ([9, 10, 0, 1, 2, 3, 4, 5, 6, 7, 8, 9, 10], [5, 9])])
def TP.B33 : List Nat := [0, 0, 2, 6, 15, 0, 0, 64, 192, 511, 1023, 2047]
theorem TP.tab33 : rtab .any (opsOf Try.f4 33) = TP.T33 := by kernel_rfl
theorem TP.bits33 : waitsOk TP.T33.2 TP.B33 = true := by kernel_rfl
def TP.T37 : Bool × List (List Nat × List Nat) := (true, [([], []), ([], []), ([], []), ([1, 2], [1, 2]), ([0, 3], [0, 3]), ([], []), ([], []), ([6], [6]), ([5, 7], [5, 7]), ([4, 8, 4], [4, 8]), ([], []), ([], []), ([], []), ([11, 12], [11, 12]), ([10, 13, 9], [10, 13]), ([], []), ([], []), ([16], [16]), ([15, 17], [15, 17]), ([14, 18, 14], [14, 18]), ([9, 19, 0, 1, 2, 3, 4, 5, 6, 7, 8, 9], [1, 5, 9]), ([19, 20, 0, 1, 2, 3, 4, 5, 6, 7, 8, 9, 10, 11, 12, 13, 14, 15, 16, 17, 18, 19, 20], [11, 15, 19])])
def TP.B37 : List Nat := [0, 0, 0, 6, 15, 0, 0, 64, 224, 511, 0, 0, 0, 6144, 16383, 0, 0, 65536, 229376, 524287, 1048575, 2097151]
theorem TP.tab37 : rtab .any (opsOf Try.f4 37) = TP.T37 := by kernel_rfl
theorem TP.bits37 : waitsOk TP.T37.2 TP.B37 = true := by kernel_rfl
set_option maxHeartbeats 8000000 in
set_option maxRecDepth 100000 in
theorem TP.calls (k : Nat) (A0 : Option Addr) (c0 : Nat) (l0 : List (S36)) (r : Bool) (w : World) (hr0 : Kd.C k36 w A0 l0.length l0) (hc0 : l0.length ≤ c0) (h : TP.f k l0 = some r) :
    Calls Try.prog 4 #[.slice A0 l0.length c0] w fun e w' => e = .returned (.bool r) ∧ Below w.heap.size w w' := by
 have hu36 := Try.underlying36
 have HR0 := Aside0.mk hr0
 have HC0 := Aside0.mk hc0
 clear hr0 hc0
 have HB := Aside0.mk (Below.refl w.heap.size w)
 have H : (if (l0.length : Int) > 100 then ((interregnumlaw17_answers.f).bind fun t112 => (some t112)) else ((timer_New.f).bind fun t113 => (TP.l0 k l0 ([] : List ByteArray) ([] : List Int) 0 t113))) = some r := h
 clear h
 by_cases c2 : (l0.length : Int) > 100
 ·rw [if_pos c2] at H
  have c2b0 : decide (100 < (l0.length : Int)) = true := decide_eq_true c2
  have c2b1 : decide (100 < l0.length) = true := decide_eq_true (by omega)
  clear c2
  replace H := Option.bind_eq_some_iff.mp H
  obtain ⟨t112, A30, H⟩ := H
  replace H : (some t112) = some r := H
  have A3 := Aside0.mk A30
  clear A30
  obtain rfl := Option.some.inj H
  go_enter Try.func4, Try.ntmps4
  go_wp2_with (first | ((with_reducible refine gate_callee (f := 10) rfl ?_); refine goesL_ (some 19) rfl rfl Try.func10 (by kernel_rfl) rfl #[] rfl (by (try simp only [List.map_toArray, List.map_cons, List.map_nil]); first | done | rfl | (simp only [List.length_drop, List.length_take]; rfl)) ?_; (with_reducible refine (interregnumlaw17_answers.calls  t112 _ A3.out).mono ?_); rintro e w4 ⟨rfl, hb⟩; refine ⟨_, rfl, ?_⟩; have n0_ := Aside0.mk (below_step (by repeat (first | (with_reducible first | exact HB.out | apply below_alloc | apply pw_below_drewN | apply below_drew1) | exact HB.out)) hb); clear HB; have HB := n0_; clear n0_; (try clear hb); (try clear hb2); (try clear hk); (try clear hi)))
  go_ret
  exact ⟨by first | rfl | (simp [errW_none, errW_some] <;> rfl) | (simp [*, errW_none, errW_some] <;> rfl), by repeat (first | (with_reducible first | exact HB.out | apply below_alloc | apply pw_below_drewN | apply below_drew1) | exact HB.out)⟩
 rw [if_neg c2] at H
 have c2b0 : decide (100 < (l0.length : Int)) = false := decide_eq_false c2
 have c2b1 : decide (100 < l0.length) = false := decide_eq_false (by omega)
 clear c2
 replace H := Option.bind_eq_some_iff.mp H
 obtain ⟨t113, A50, H⟩ := H
 replace H : (TP.l0 k l0 ([] : List ByteArray) ([] : List Int) 0 t113) = some r := H
 have A5 := Aside0.mk A50
 clear A50
 have H' := Aside0.mk H
 clear H
 go_enter Try.func4, Try.ntmps4
 go_wp2_with (first | ((with_reducible refine gate_callee (f := 11) rfl ?_); refine goesL_ (some 20) rfl rfl Try.func11 (by kernel_rfl) rfl #[] rfl (by (try simp only [List.map_toArray, List.map_cons, List.map_nil]); first | done | rfl | (simp only [List.length_drop, List.length_take]; rfl)) ?_; (with_reducible refine (timer_New.calls  t113 w _ ?side1 A5.out).mono ?_); (case side1 => repeat (first | (with_reducible first | exact HB.out | apply below_alloc | apply pw_below_drewN | apply below_drew1) | exact HB.out)); rintro e w6 ⟨g114, rfl, hi, hb, hb2⟩; refine ⟨_, rfl, ?_⟩; have n0_ := Aside0.mk (hb); have n1_ := Aside0.mk (hi); clear HB; have HB := n0_; have HI114 := n1_; clear n0_ n1_; (try clear hb); (try clear hb2); (try clear hk); (try clear hi)))
 go_loopg [4, 5, 6] k (fun kq v4 v5 v6 w' => ∃ (x4_1 : List ByteArray) (x5_1 : List Int) (x6_1 : Int) (x115000_1 : Timer.TimerM), v6 = .int .i64 x6_1 ∧ Aside0 (TP.l0 kq l0 x4_1 x5_1 x6_1 x115000_1 = some r) ∧ Aside0 (kq ≤ k) ∧ Aside0 (Kd.R Kd.string 9 w' w.heap.size (fun _ => True) v4 x4_1) ∧ Aside0 (Kd.R (Kd.int .i64) 3 w' w.heap.size (fun _ => True) v5 x5_1) ∧ Aside0 (IsS69 w w' g114 x115000_1) ∧ Aside0 (Below w.heap.size w w'))
 case atStart => exact ⟨(([] : List ByteArray)), (([] : List Int)), (0), (t113), (by first | rfl | (simp; done) | (simp [*]; done)), H', ⟨Nat.le_refl _⟩, ⟨by first | exact Kd.R_nil _ _ _ _ _ | exact Kd.N_nil _ _ _ _ _ | exact Kd.V_nil _ _ _ _ _ | exact Kd.Q_nil _ _ _ _ _ | exact Kd.S_nil _ _ _ _ _⟩, ⟨by first | exact Kd.R_nil _ _ _ _ _ | exact Kd.N_nil _ _ _ _ _ | exact Kd.V_nil _ _ _ _ _ | exact Kd.Q_nil _ _ _ _ _ | exact Kd.S_nil _ _ _ _ _⟩, ⟨by repeat (first | (with_reducible first | exact HI114.out | apply IsS69.alloc | apply IsS69.drewN | apply IsS69.drew) | exact HI114.out)⟩, ⟨by repeat (first | (with_reducible first | exact HB.out | apply below_alloc | apply pw_below_drewN | apply below_drew1 | refine below_set ?_ (IsS69.ge HI114.out)) | exact HB.out)⟩⟩
 clear H'
 try clear c1
 try clear c2
 try clear c2b0
 try clear c2b1
 try clear p2
 try clear c4
 obtain ⟨x4_1, x5_1, x6_1, x115000_1, rfl, HA, HK1, HO_4, HO_5, HI114, HB⟩ := hrel
 cases gk with
 | zero => exact absurd HA.out (by simp [TP.l0])
 | succ k1 =>
 have H := HA.out
 clear HA
 simp only [TP.l0] at H
 by_cases c7 : x6_1 < (l0.length : Int)
 rotate_left
 ·rw [if_neg c7] at H
  have c7b0 : decide (x6_1 < (l0.length : Int)) = false := decide_eq_false c7
  clear c7
  replace H := Option.bind_eq_some_iff.mp H
  obtain ⟨t184, A1370, H⟩ := H
  replace H : (some t184) = some r := H
  have A137 := Aside0.mk A1370
  clear A1370
  obtain rfl := Option.some.inj H
  go_wp2_with (first | ((with_reducible refine gate_callee (f := 10) rfl ?_); refine goesL_ (some 224) rfl rfl Try.func10 (by kernel_rfl) rfl #[] rfl (by (try simp only [List.map_toArray, List.map_cons, List.map_nil]); first | done | rfl | (simp only [List.length_drop, List.length_take]; rfl)) ?_; (with_reducible refine (interregnumlaw17_answers.calls  t184 _ A137.out).mono ?_); rintro e w138 ⟨rfl, hb⟩; refine ⟨_, rfl, ?_⟩; have n0_ := Aside0.mk (Kd.R_below (by (with_reducible repeat (first|apply Kd.R_alloc|apply Kd.R_drewN|apply Kd.R_drew)); exact HO_4.out) hb); have n1_ := Aside0.mk (Kd.R_below (by (with_reducible repeat (first|apply Kd.R_alloc|apply Kd.R_drewN|apply Kd.R_drew)); exact HO_5.out) hb); have n2_ := Aside0.mk (IsS69.below (by repeat (first | (with_reducible first | exact HI114.out | apply IsS69.alloc | apply IsS69.drewN | apply IsS69.drew) | exact HI114.out)) hb); have n3_ := Aside0.mk (below_step (by repeat (first | (with_reducible first | exact HB.out | apply below_alloc | apply pw_below_drewN | apply below_drew1 | refine below_set ?_ (IsS69.ge HI114.out)) | exact HB.out)) hb); clear HO_4; clear HO_5; clear HI114; clear HB; have HO_4 := n0_; have HO_5 := n1_; have HI114 := n2_; have HB := n3_; clear n0_ n1_ n2_ n3_; (try clear hb); (try clear hb2); (try clear hk); (try clear hi)))
  go_ret
  exact ⟨by first | rfl | (simp [errW_none, errW_some] <;> rfl) | (simp [*, errW_none, errW_some] <;> rfl), by repeat (first | (with_reducible first | exact HB.out | apply below_alloc | apply pw_below_drewN | apply below_drew1 | refine below_set ?_ (IsS69.ge HI114.out)) | exact HB.out)⟩
 rw [if_pos c7] at H
 have c7b0 : decide (x6_1 < (l0.length : Int)) = true := decide_eq_true c7
 clear c7
 by_cases c8 : 0 ≤ x6_1
 rotate_left
 ·rw [if_neg c8] at H
  exact absurd H (by simp)
 rw [if_pos c8] at H
 have c8b0 : decide (0 ≤ x6_1) = true := decide_eq_true c8
 clear c8
 have H' := Aside0.mk H
 clear H
 have p115 : 0 ≤ (x6_1 : Int) := of_decide_eq_true (by first | (with_reducible assumption) | assumption)
 have q115 : x6_1 < (l0.length : Int) := of_decide_eq_true (by first | (with_reducible assumption) | assumption)
 obtain ⟨ad115, e115, hx115_0, hx115_1, hx115_2⟩ := at_T36 HR0.out x6_1 p115 q115
 cases e115
 replace hx115_0 := (HB.out.cell (World.block_lt_of_cell? w _ hx115_0)).trans hx115_0
 replace hx115_1 := (HB.out.cell (World.block_lt_of_cell? w _ hx115_1)).trans hx115_1
 replace hx115_2 := (HB.out.cell (World.block_lt_of_cell? w _ hx115_2)).trans hx115_2
 replace p115 := eq_true p115
 replace q115 := eq_true q115
 go_wp2_with (first | ((with_reducible refine gate_dst (N := 7) rfl ?_); refine box_event ?hg (N := 7) ?hd (cs := #[.int .i64 0, .int .i64 0, .string (⟨#[]⟩ : ByteArray)]) (t := 36) ?hr ?_; (case hd => rfl); (case hg => rfl); (case hr => first | (go_simp; done) | (go_simp; rfl) | (go_simp; simp [IntKind.wrap_u8, IntKind.wrap_u32]; done)); intro gb116 hg w9 hbox hb; have n0_ := Aside0.mk (Kd.R_below (by (with_reducible repeat (first|apply Kd.R_alloc|apply Kd.R_drewN|apply Kd.R_drew)); exact HO_4.out) hb); have n1_ := Aside0.mk (Kd.R_below (by (with_reducible repeat (first|apply Kd.R_alloc|apply Kd.R_drewN|apply Kd.R_drew)); exact HO_5.out) hb); have n2_ := Aside0.mk (IsS69.below (by repeat (first | (with_reducible first | exact HI114.out | apply IsS69.alloc | apply IsS69.drewN | apply IsS69.drew) | exact HI114.out)) hb); have n3_ := Aside0.mk (below_step (by repeat (first | (with_reducible first | exact HB.out | apply below_alloc | apply pw_below_drewN | apply below_drew1 | refine below_set ?_ (IsS69.ge HI114.out)) | exact HB.out)) hb); have n4_ := Aside0.mk (hbox); have n5_ := Aside0.mk ((by rw [hg]; exact (below_size (by repeat (first | (with_reducible first | exact HB.out | apply below_alloc | apply pw_below_drewN | apply below_drew1 | refine below_set ?_ (IsS69.ge HI114.out)) | exact HB.out))) : w.heap.size ≤ gb116)); have n6_ := Aside0.mk ((by rw [hg]; exact (below_size (by repeat (first | (with_reducible first | exact HB.out | apply below_alloc | apply pw_below_drewN | apply below_drew1 | refine below_set ?_ (IsS69.ge HI114.out)) | exact HB.out))) : w.heap.size ≤ gb116)); have n7_ := Aside0.mk ((by rw [hg]; exact Nat.ne_of_lt (IsS69.lt (show IsS69 w _ g114 x115000_1 from by repeat (first | (with_reducible first | exact HI114.out | apply IsS69.alloc | apply IsS69.drewN | apply IsS69.drew) | exact HI114.out))) : g114 ≠ gb116)); have n8_ := Aside0.mk ((by rw [hg]; exact Nat.ne_of_gt (IsS69.lt (show IsS69 w _ g114 x115000_1 from by repeat (first | (with_reducible first | exact HI114.out | apply IsS69.alloc | apply IsS69.drewN | apply IsS69.drew) | exact HI114.out))) : gb116 ≠ g114)); clear HO_4; clear HO_5; clear HI114; clear HB; have HO_4 := n0_; have HO_5 := n1_; have HI114 := n2_; have HB := n3_; have BK116 := n4_; have GW116 := n5_; have GE116 := n6_; have NB114_116 := n7_; have NB116_114 := n8_; clear n0_ n1_ n2_ n3_ n4_ n5_ n6_ n7_ n8_; clear hb hbox hg; have hnb10 := NB116_114.out; have hnc10 := NB114_116.out; have hcz11_0 : w9.cell? ⟨gb116, 0, none⟩ = some (.int .i64 0) := (blk_cell BK116.out 0).trans rfl; have hcz11_1 : w9.cell? ⟨gb116, 1, none⟩ = some (.int .i64 0) := (blk_cell BK116.out 1).trans rfl; have hcz11_2 : w9.cell? ⟨gb116, 2, none⟩ = some (.string (⟨#[]⟩ : ByteArray)) := (blk_cell BK116.out 2).trans rfl; have hfz11_0 := blk_frozen BK116.out 0; have hfz11_1 := blk_frozen BK116.out 1; have hfz11_2 := blk_frozen BK116.out 2))
 go_loopg [8, 9] k1 (fun kq v8 v9 w' => ∃ (x8_2 : Int) (x9_2 : Int), v8 = .int .i64 x8_2 ∧ v9 = .int .i64 x9_2 ∧ Aside0 (TP.l1 kq l0 x4_1 x5_1 x6_1 x8_2 x9_2 x115000_1 ((rd_T36 l0 x6_1).f0) ((rd_T36 l0 x6_1).f1) ((rd_T36 l0 x6_1).f2) = some r) ∧ Aside0 (kq ≤ k1) ∧ Aside0 (Kd.R Kd.string 9 w' w.heap.size (fun _ => True) u4 x4_1) ∧ Aside0 (Kd.R (Kd.int .i64) 3 w' w.heap.size (fun _ => True) u5 x5_1) ∧ Aside0 (w'.heap[gb116]? = some (.cells #[.int .i64 ((rd_T36 l0 x6_1).f0), .int .i64 ((rd_T36 l0 x6_1).f1), .string ((rd_T36 l0 x6_1).f2)] 36 (0, 0))) ∧ Aside0 (IsS69 w w' g114 x115000_1) ∧ Aside0 (Below w.heap.size w w'))
 case atStart => exact ⟨((-1)), (0), (by first | rfl | (simp; done) | (simp [*]; done)), (by first | rfl | (simp; done) | (simp [*]; done)), H', ⟨Nat.le_refl _⟩, ⟨by (with_reducible repeat (first | apply Kd.R_alloc | apply Kd.R_drewN | apply Kd.R_drew)); exact Kd.R_mono (Kd.R_far (p := ⟨gb116, 2, none⟩) (Kd.R_far (p := ⟨gb116, 1, none⟩) (Kd.R_far (p := ⟨gb116, 0, none⟩) (Kd.R_types HO_4.out BK116.out (by decide)) (fun _ hk => hk.2) (.int .i64 ((rd_T36 l0 x6_1).f0))) (fun _ hk => hk.2) (.int .i64 ((rd_T36 l0 x6_1).f1))) (fun _ hk => hk.2) (.string ((rd_T36 l0 x6_1).f2))) (fun _ hk => trivial)⟩, ⟨by (with_reducible repeat (first | apply Kd.R_alloc | apply Kd.R_drewN | apply Kd.R_drew)); exact Kd.R_mono (Kd.R_far (p := ⟨gb116, 2, none⟩) (Kd.R_far (p := ⟨gb116, 1, none⟩) (Kd.R_far (p := ⟨gb116, 0, none⟩) (Kd.R_types HO_5.out BK116.out (by decide)) (fun _ hk => hk.2) (.int .i64 ((rd_T36 l0 x6_1).f0))) (fun _ hk => hk.2) (.int .i64 ((rd_T36 l0 x6_1).f1))) (fun _ hk => hk.2) (.string ((rd_T36 l0 x6_1).f2))) (fun _ hk => trivial)⟩, ⟨by (with_reducible repeat (first | refine blk_drewN ?_ _ | refine blk_drew ?_ | refine blk_alloc ?_ _)); refine blk_put (cs := #[.int .i64 ((rd_T36 l0 x6_1).f0), .int .i64 ((rd_T36 l0 x6_1).f1), .string (⟨#[]⟩ : ByteArray)]) ?_ 2 _ rfl; (with_reducible repeat (first | refine blk_drewN ?_ _ | refine blk_drew ?_ | refine blk_alloc ?_ _)); refine blk_put (cs := #[.int .i64 ((rd_T36 l0 x6_1).f0), .int .i64 0, .string (⟨#[]⟩ : ByteArray)]) ?_ 1 _ rfl; (with_reducible repeat (first | refine blk_drewN ?_ _ | refine blk_drew ?_ | refine blk_alloc ?_ _)); refine blk_put (cs := #[.int .i64 0, .int .i64 0, .string (⟨#[]⟩ : ByteArray)]) ?_ 0 _ rfl; (with_reducible repeat (first | refine blk_drewN ?_ _ | refine blk_drew ?_ | refine blk_alloc ?_ _)); exact BK116.out⟩, ⟨by repeat (first | (with_reducible first | exact HI114.out | apply IsS69.alloc | apply IsS69.drewN | apply IsS69.drew | refine IsS69.far ?_ (by (repeat (first | exact (Opq.NP.blk BK116.out (by decide)) | (with_reducible apply Opq.NP.setCell) | (with_reducible apply Opq.NP.drewN) | (with_reducible apply Opq.NP.drew) | (with_reducible apply Opq.NP.alloc))); done) _) | exact HI114.out)⟩, ⟨by repeat (first | (with_reducible first | exact HB.out | apply below_alloc | apply pw_below_drewN | apply below_drew1 | refine below_set ?_ (IsS69.ge HI114.out) | refine below_set ?_ GE116.out) | exact HB.out)⟩⟩
 clear H'
 try clear c1
 try clear p1
 try clear q1
 try clear hx1
 try clear c2
 try clear c2b0
 try clear c2b1
 try clear p2
 try clear c4
 try clear c7
 try clear c7b0
 try clear c8
 try clear c8b0
 try clear c10
 try clear c11
 try clear p11
 try clear q11
 try clear hx11
 try clear hcz11_0
 try clear hcz11_1
 try clear hcz11_2
 try clear hfz11_0
 try clear hfz11_1
 try clear hfz11_2
 try clear hx115_0
 try clear hx115_1
 try clear hx115_2
 try clear p115
 try clear p2
 try clear q115
 obtain ⟨x8_2, x9_2, rfl, rfl, HA, HK2, HO_4, HO_5, BK116, HI114, HB⟩ := hrel
 cases gk with
 | zero => exact absurd HA.out (by simp [TP.l1])
 | succ k2 =>
 have H := HA.out
 clear HA
 simp only [TP.l1] at H
 by_cases c12 : x9_2 < (x4_1.length : Int)
 ·rw [if_pos c12] at H
  have c12b0 : decide (x9_2 < (x4_1.length : Int)) = true := decide_eq_true c12
  clear c12
  by_cases c13 : 0 ≤ x9_2
  rotate_left
  ·rw [if_neg c13] at H
   exact absurd H (by simp)
  rw [if_pos c13] at H
  have c13b0 : decide (0 ≤ x9_2) = true := decide_eq_true c13
  clear c13
  by_cases c14 : (rdOf ByteArray.empty x4_1 x9_2).toList = ((rd_T36 l0 x6_1).f2).toList
  rotate_left
  ·rw [if_neg c14] at H
   have c14b0 : ((rdOf ByteArray.empty x4_1 x9_2).toList == ((rd_T36 l0 x6_1).f2).toList) = false := beq_eq_false_iff_ne.mpr c14
   have c14b1 : ((rdOf ByteArray.empty x4_1 x9_2).toList != ((rd_T36 l0 x6_1).f2).toList) = true := bne_iff_ne.mpr c14
   have H' := Aside0.mk H
   clear H
   obtain ⟨Ao17, co17, eo17⟩ := Kd.R_slice HO_4.out
   subst eo17
   try go_wp2
   have n0_ := Aside0.mk (Kd.R_drew HO_4.out)
   have n1_ := Aside0.mk (Kd.R_drew HO_5.out)
   have n2_ := Aside0.mk (blk_drew BK116.out)
   have n3_ := Aside0.mk (IsS69.drew HI114.out)
   have n4_ := Aside0.mk (below_drew1 HB.out)
   clear HO_4 HO_5 BK116 HI114 HB
   have HO_4 := n0_; have HO_5 := n1_; have BK116 := n2_; have HI114 := n3_; have HB := n4_
   clear n0_ n1_ n2_ n3_ n4_
   have p117 : 0 ≤ (x9_2 : Int) := of_decide_eq_true (by first | (with_reducible assumption) | assumption)
   have q117 : x9_2 < (x4_1.length : Int) := of_decide_eq_true (by first | (with_reducible assumption) | assumption)
   obtain ⟨ad117, e117, hx117_0⟩ := Kd.at_string (Kd.R_reads' HO_4.out).2.2 x9_2 p117 q117
   cases e117
   replace p117 := eq_true p117
   replace q117 := eq_true q117
   go_region_held3 (fun w' => w'.cell? ⟨gb116, 0, none⟩ = some (.int .i64 ((rd_T36 l0 x6_1).f0)) ∧ w'.cell? ⟨gb116, 1, none⟩ = some (.int .i64 ((rd_T36 l0 x6_1).f1)) ∧ w'.cell? ⟨gb116, 2, none⟩ = some (.string ((rd_T36 l0 x6_1).f2)) ∧ w'.cell? (ad117.add (x9_2).toNat) = some (.string (rdOf ByteArray.empty x4_1 x9_2))) (exact ⟨(blk_cell BK116.out 0).trans rfl, (blk_cell BK116.out 1).trans rfl, (blk_cell BK116.out 2).trans rfl, hx117_0⟩) (fail)
   try go_wp2
   go_roundg k2
   case measure => have := HK1.out; have := HK2.out; omega
   case rel => exact ⟨(x8_2), (wrap64 (x9_2 + 1)), (by first | rfl | (simp; done) | (simp [*]; done)), (by first | rfl | (simp; done) | (simp [*]; done)), H', ⟨by have := HK1.out; have := HK2.out; omega⟩, ⟨by (with_reducible repeat (first | apply Kd.R_alloc | apply Kd.R_drewN | apply Kd.R_drew)); exact HO_4.out⟩, ⟨by (with_reducible repeat (first | apply Kd.R_alloc | apply Kd.R_drewN | apply Kd.R_drew)); exact HO_5.out⟩, ⟨by (with_reducible repeat (first | refine blk_drewN ?_ _ | refine blk_drew ?_ | refine blk_alloc ?_ _)); exact BK116.out⟩, ⟨by repeat (first | (with_reducible first | exact HI114.out | apply IsS69.alloc | apply IsS69.drewN | apply IsS69.drew | refine IsS69.far ?_ (by (repeat (first | exact (Opq.NP.blk BK116.out (by decide)) | (with_reducible apply Opq.NP.setCell) | (with_reducible apply Opq.NP.drewN) | (with_reducible apply Opq.NP.drew) | (with_reducible apply Opq.NP.alloc))); done) _) | exact HI114.out)⟩, ⟨by repeat (first | (with_reducible first | exact HB.out | apply below_alloc | apply pw_below_drewN | apply below_drew1 | refine below_set ?_ (IsS69.ge HI114.out) | refine below_set ?_ GE116.out) | exact HB.out)⟩⟩
  rw [if_pos c14] at H
  have c14b0 : ((rdOf ByteArray.empty x4_1 x9_2).toList == ((rd_T36 l0 x6_1).f2).toList) = true := beq_iff_eq.mpr c14
  have c14b1 : ((rdOf ByteArray.empty x4_1 x9_2).toList != ((rd_T36 l0 x6_1).f2).toList) = false := bne_eq_false_iff_eq.mpr c14
  clear c14
  have H' := Aside0.mk H
  clear H
  obtain ⟨Ao15, co15, eo15⟩ := Kd.R_slice HO_4.out
  subst eo15
  try go_wp2
  have n0_ := Aside0.mk (Kd.R_drew HO_4.out)
  have n1_ := Aside0.mk (Kd.R_drew HO_5.out)
  have n2_ := Aside0.mk (blk_drew BK116.out)
  have n3_ := Aside0.mk (IsS69.drew HI114.out)
  have n4_ := Aside0.mk (below_drew1 HB.out)
  clear HO_4 HO_5 BK116 HI114 HB
  have HO_4 := n0_; have HO_5 := n1_; have BK116 := n2_; have HI114 := n3_; have HB := n4_
  clear n0_ n1_ n2_ n3_ n4_
  have p117 : 0 ≤ (x9_2 : Int) := of_decide_eq_true (by first | (with_reducible assumption) | assumption)
  have q117 : x9_2 < (x4_1.length : Int) := of_decide_eq_true (by first | (with_reducible assumption) | assumption)
  obtain ⟨ad117, e117, hx117_0⟩ := Kd.at_string (Kd.R_reads' HO_4.out).2.2 x9_2 p117 q117
  cases e117
  replace p117 := eq_true p117
  replace q117 := eq_true q117
  go_region_held3 (fun w' => w'.cell? ⟨gb116, 0, none⟩ = some (.int .i64 ((rd_T36 l0 x6_1).f0)) ∧ w'.cell? ⟨gb116, 1, none⟩ = some (.int .i64 ((rd_T36 l0 x6_1).f1)) ∧ w'.cell? ⟨gb116, 2, none⟩ = some (.string ((rd_T36 l0 x6_1).f2)) ∧ w'.cell? (ad117.add (x9_2).toNat) = some (.string (rdOf ByteArray.empty x4_1 x9_2))) (exact ⟨(blk_cell BK116.out 0).trans rfl, (blk_cell BK116.out 1).trans rfl, (blk_cell BK116.out 2).trans rfl, hx117_0⟩) (fail)
  try go_wp2
  go_roundg k2
  case measure => have := HK1.out; have := HK2.out; omega
  case rel => exact ⟨(x9_2), (wrap64 (x9_2 + 1)), (by first | rfl | (simp; done) | (simp [*]; done)), (by first | rfl | (simp; done) | (simp [*]; done)), H', ⟨by have := HK1.out; have := HK2.out; omega⟩, ⟨by (with_reducible repeat (first | apply Kd.R_alloc | apply Kd.R_drewN | apply Kd.R_drew)); exact HO_4.out⟩, ⟨by (with_reducible repeat (first | apply Kd.R_alloc | apply Kd.R_drewN | apply Kd.R_drew)); exact HO_5.out⟩, ⟨by (with_reducible repeat (first | refine blk_drewN ?_ _ | refine blk_drew ?_ | refine blk_alloc ?_ _)); exact BK116.out⟩, ⟨by repeat (first | (with_reducible first | exact HI114.out | apply IsS69.alloc | apply IsS69.drewN | apply IsS69.drew | refine IsS69.far ?_ (by (repeat (first | exact (Opq.NP.blk BK116.out (by decide)) | (with_reducible apply Opq.NP.setCell) | (with_reducible apply Opq.NP.drewN) | (with_reducible apply Opq.NP.drew) | (with_reducible apply Opq.NP.alloc))); done) _) | exact HI114.out)⟩, ⟨by repeat (first | (with_reducible first | exact HB.out | apply below_alloc | apply pw_below_drewN | apply below_drew1 | refine below_set ?_ (IsS69.ge HI114.out) | refine below_set ?_ GE116.out) | exact HB.out)⟩⟩
 rw [if_neg c12] at H
 have c12b0 : decide (x9_2 < (x4_1.length : Int)) = false := decide_eq_false c12
 clear c12
 replace H := Option.bind_eq_some_iff.mp H
 obtain ⟨⟨t118, t119, t120⟩, A190, H⟩ := H
 replace H : (if (t119 != (decide (x8_2 ≥ 0))) = true then (TP.j2 k2 l0 x4_1 x5_1 x6_1 x8_2 true t120 ((rd_T36 l0 x6_1).f0) ((rd_T36 l0 x6_1).f1) ((rd_T36 l0 x6_1).f2)) else (if t119 = true then (if 0 ≤ x8_2 then (if x8_2 < (x5_1.length : Int) then (if t118 = (rd x5_1 x8_2) then (TP.j2 k2 l0 x4_1 x5_1 x6_1 x8_2 false t120 ((rd_T36 l0 x6_1).f0) ((rd_T36 l0 x6_1).f1) ((rd_T36 l0 x6_1).f2)) else (TP.j2 k2 l0 x4_1 x5_1 x6_1 x8_2 true t120 ((rd_T36 l0 x6_1).f0) ((rd_T36 l0 x6_1).f1) ((rd_T36 l0 x6_1).f2))) else (none)) else (none)) else (TP.j2 k2 l0 x4_1 x5_1 x6_1 x8_2 (t118 != 0) t120 ((rd_T36 l0 x6_1).f0) ((rd_T36 l0 x6_1).f1) ((rd_T36 l0 x6_1).f2)))) = some r := H
 have A19 := Aside0.mk A190
 clear A190
 have HC20 := Aside0.mk H
 clear H
 obtain ⟨Ao21, co21, eo21⟩ := Kd.R_slice HO_4.out
 subst eo21
 have hnb22 := NB116_114.out
 have hnc22 := NB114_116.out
 have hcz23_0 : wr.cell? ⟨gb116, 0, none⟩ = some (.int .i64 ((rd_T36 l0 x6_1).f0)) := (blk_cell BK116.out 0).trans rfl
 have hcz23_1 : wr.cell? ⟨gb116, 1, none⟩ = some (.int .i64 ((rd_T36 l0 x6_1).f1)) := (blk_cell BK116.out 1).trans rfl
 have hcz23_2 : wr.cell? ⟨gb116, 2, none⟩ = some (.string ((rd_T36 l0 x6_1).f2)) := (blk_cell BK116.out 2).trans rfl
 have hfz23_0 := blk_frozen BK116.out 0
 have hfz23_1 := blk_frozen BK116.out 1
 have hfz23_2 := blk_frozen BK116.out 2
 go_upto_region 17 with (first | ((with_reducible refine gate_callee (f := 14) rfl ?_); refine goesL_ (some 49) rfl rfl Try.func14 (by kernel_rfl) rfl #[.pointer (some ⟨g114, 0, none⟩), .string ((rd_T36 l0 x6_1).f2)] rfl (by (try simp only [List.map_toArray, List.map_cons, List.map_nil]); first | done | rfl | (simp only [List.length_drop, List.length_take]; rfl)) ?_; (with_reducible refine (timer_Timers_At.calls g114 x115000_1 ((rd_T36 l0 x6_1).f2) t118 t119 t120 w _ ?side1 ?side2 A19.out).mono ?_); (case side1 => repeat (first | (with_reducible first | exact HI114.out | apply IsS69.alloc | apply IsS69.drewN | apply IsS69.drew | refine IsS69.far ?_ (by (repeat (first | exact (Opq.NP.blk BK116.out (by decide)) | (with_reducible apply Opq.NP.setCell) | (with_reducible apply Opq.NP.drewN) | (with_reducible apply Opq.NP.drew) | (with_reducible apply Opq.NP.alloc))); done) _) | exact HI114.out)); (case side2 => repeat (first | (with_reducible first | exact HB.out | apply below_alloc | apply pw_below_drewN | apply below_drew1 | refine below_set ?_ (IsS69.ge HI114.out) | refine below_set ?_ GE116.out) | exact HB.out)); rintro e w24 ⟨rfl, hi, hb, hk⟩; refine ⟨_, rfl, ?_⟩; have n0_ := Aside0.mk (Opq.R_keep (by (with_reducible repeat (first|apply Kd.R_alloc|apply Kd.R_drewN|apply Kd.R_drew)); exact HO_4.out) hk (by decide)); have n1_ := Aside0.mk (Opq.R_keep (by (with_reducible repeat (first|apply Kd.R_alloc|apply Kd.R_drewN|apply Kd.R_drew)); exact HO_5.out) hk (by decide)); have n2_ := Aside0.mk (Opq.KeepO.blk2 hk (g := gb116) (o := .cells #[.int .i64 ((rd_T36 l0 x6_1).f0), .int .i64 ((rd_T36 l0 x6_1).f1), .string ((rd_T36 l0 x6_1).f2)] 36 (0, 0)) (by (with_reducible repeat (first | refine blk_drewN ?_ _ | refine blk_drew ?_ | refine blk_alloc ?_ _)); exact BK116.out) (by rfl)); have n3_ := Aside0.mk (hb); have n4_ := Aside0.mk (hi); clear HO_4; clear HO_5; clear BK116; clear HB; clear HI114; have HO_4 := n0_; have HO_5 := n1_; have BK116 := n2_; have HB := n3_; have HI114 := n4_; clear n0_ n1_ n2_ n3_ n4_; (try clear hb); (try clear hb2); (try clear hk); (try clear hi)))
 (try simp only [Act.put, q1_, q2_, q3_])
 go_cut [74] (fun v74 wc => ∃ (kq : Nat) (x74_19 : Bool), v74 = .bool x74_19 ∧ Aside0 (TP.j2 kq l0 x4_1 x5_1 x6_1 x8_2 x74_19 t120 ((rd_T36 l0 x6_1).f0) ((rd_T36 l0 x6_1).f1) ((rd_T36 l0 x6_1).f2) = some r) ∧ Aside0 (kq ≤ k2) ∧ Aside0 (Kd.R Kd.string 9 wc w.heap.size (fun _ => True) (.slice Ao21 x4_1.length co21) x4_1) ∧ Aside0 (Kd.R (Kd.int .i64) 3 wc w.heap.size (fun _ => True) u5 x5_1) ∧ Aside0 (wc.heap[gb116]? = some (.cells #[.int .i64 ((rd_T36 l0 x6_1).f0), .int .i64 ((rd_T36 l0 x6_1).f1), .string ((rd_T36 l0 x6_1).f2)] 36 (0, 0))) ∧ Aside0 (IsS69 w wc g114 t120) ∧ Aside0 (Below w.heap.size w wc))
 case first => as_aux_lemma =>
  have H := HC20.out
  clear HC20
  by_cases c25 : (t119 != (decide (x8_2 ≥ 0))) = true
  ·rw [if_pos c25] at H
   have c25b0 : (t119 != (decide (x8_2 ≥ 0))) = true := c25
   (try (have c25b1 : decide (t119 = (decide (x8_2 ≥ 0))) = false := by simpa using c25))
   (try (have c25b2 : (t119 == (decide (x8_2 ≥ 0))) = false := by simpa using c25))
   (try (have c25b3 : ¬ (t119 = (decide (x8_2 ≥ 0))) := by simpa using c25))
   clear c25
   (first | rw [c25b0] | (simp only [i64_w, i32_w]; rw [c25b0]) | skip)
   have H' := Aside0.mk H
   clear H
   go_wp2
   go_meet
   case rel => exact ⟨_, (true), (by first | rfl | (simp; done) | (simp [*]; done)), H', ⟨by have := HK1.out; have := HK2.out; first | omega | exact Nat.le_refl _⟩, ⟨by (with_reducible repeat (first | apply Kd.R_alloc | apply Kd.R_drewN | apply Kd.R_drew)); exact HO_4.out⟩, ⟨by (with_reducible repeat (first | apply Kd.R_alloc | apply Kd.R_drewN | apply Kd.R_drew)); exact HO_5.out⟩, ⟨by (with_reducible repeat (first | refine blk_drewN ?_ _ | refine blk_drew ?_ | refine blk_alloc ?_ _)); exact BK116.out⟩, ⟨by repeat (first | (with_reducible first | exact HI114.out | apply IsS69.alloc | apply IsS69.drewN | apply IsS69.drew | refine IsS69.far ?_ (by (repeat (first | exact (Opq.NP.blk BK116.out (by decide)) | (with_reducible apply Opq.NP.setCell) | (with_reducible apply Opq.NP.drewN) | (with_reducible apply Opq.NP.drew) | (with_reducible apply Opq.NP.alloc))); done) _) | exact HI114.out)⟩, ⟨by repeat (first | (with_reducible first | exact HB.out | apply below_alloc | apply pw_below_drewN | apply below_drew1 | refine below_set ?_ (IsS69.ge HI114.out) | refine below_set ?_ GE116.out) | exact HB.out)⟩⟩
  rw [if_neg c25] at H
  have c25b0 : (t119 != (decide (x8_2 ≥ 0))) = false := by simpa using c25
  (try (have c25b1 : decide (t119 = (decide (x8_2 ≥ 0))) = true := by simpa using c25))
  (try (have c25b2 : (t119 == (decide (x8_2 ≥ 0))) = true := by simpa using c25))
  clear c25
  (first | rw [c25b0] | (simp only [i64_w, i32_w]; rw [c25b0]) | skip)
  by_cases c26 : t119 = true
  rotate_left
  ·replace c26 := Bool.eq_false_iff.mpr c26
   subst c26
   have H1 : (TP.j2 k2 l0 x4_1 x5_1 x6_1 x8_2 (t118 != 0) t120 ((rd_T36 l0 x6_1).f0) ((rd_T36 l0 x6_1).f1) ((rd_T36 l0 x6_1).f2)) = some r := by rw [if_neg (show ¬ (false = true) by decide)] at H; exact H
   clear H
   have H := H1
   clear H1
   have H' := Aside0.mk H
   clear H
   go_wp2
   go_meet
   case rel => exact ⟨_, ((t118 != 0)), (by first | rfl | (simp; done) | (simp [*]; done)), H', ⟨by have := HK1.out; have := HK2.out; first | omega | exact Nat.le_refl _⟩, ⟨by (with_reducible repeat (first | apply Kd.R_alloc | apply Kd.R_drewN | apply Kd.R_drew)); exact HO_4.out⟩, ⟨by (with_reducible repeat (first | apply Kd.R_alloc | apply Kd.R_drewN | apply Kd.R_drew)); exact HO_5.out⟩, ⟨by (with_reducible repeat (first | refine blk_drewN ?_ _ | refine blk_drew ?_ | refine blk_alloc ?_ _)); exact BK116.out⟩, ⟨by repeat (first | (with_reducible first | exact HI114.out | apply IsS69.alloc | apply IsS69.drewN | apply IsS69.drew | refine IsS69.far ?_ (by (repeat (first | exact (Opq.NP.blk BK116.out (by decide)) | (with_reducible apply Opq.NP.setCell) | (with_reducible apply Opq.NP.drewN) | (with_reducible apply Opq.NP.drew) | (with_reducible apply Opq.NP.alloc))); done) _) | exact HI114.out)⟩, ⟨by repeat (first | (with_reducible first | exact HB.out | apply below_alloc | apply pw_below_drewN | apply below_drew1 | refine below_set ?_ (IsS69.ge HI114.out) | refine below_set ?_ GE116.out) | exact HB.out)⟩⟩
  subst c26
  have H1 : (if 0 ≤ x8_2 then (if x8_2 < (x5_1.length : Int) then (if t118 = (rd x5_1 x8_2) then (TP.j2 k2 l0 x4_1 x5_1 x6_1 x8_2 false t120 ((rd_T36 l0 x6_1).f0) ((rd_T36 l0 x6_1).f1) ((rd_T36 l0 x6_1).f2)) else (TP.j2 k2 l0 x4_1 x5_1 x6_1 x8_2 true t120 ((rd_T36 l0 x6_1).f0) ((rd_T36 l0 x6_1).f1) ((rd_T36 l0 x6_1).f2))) else (none)) else (none)) = some r := by rw [if_pos rfl] at H; exact H
  clear H
  have H := H1
  clear H1
  by_cases c27 : 0 ≤ x8_2
  rotate_left
  ·rw [if_neg c27] at H
   exact absurd H (by simp)
  rw [if_pos c27] at H
  have c27b0 : decide (0 ≤ x8_2) = true := decide_eq_true c27
  clear c27
  by_cases c28 : x8_2 < (x5_1.length : Int)
  rotate_left
  ·rw [if_neg c28] at H
   exact absurd H (by simp)
  rw [if_pos c28] at H
  have c28b0 : decide (x8_2 < (x5_1.length : Int)) = true := decide_eq_true c28
  clear c28
  by_cases c29 : t118 = (rd x5_1 x8_2)
  rotate_left
  ·rw [if_neg c29] at H
   have c29b0 : (t118 == (rd x5_1 x8_2)) = false := beq_eq_false_iff_ne.mpr c29
   have c29b1 : (t118 != (rd x5_1 x8_2)) = true := bne_iff_ne.mpr c29
   have H' := Aside0.mk H
   clear H
   obtain ⟨Ao31, co31, eo31⟩ := Kd.R_slice HO_5.out
   subst eo31
   have p121 : 0 ≤ (x8_2 : Int) := of_decide_eq_true (by first | (with_reducible assumption) | assumption)
   have q121 : x8_2 < (x5_1.length : Int) := of_decide_eq_true (by first | (with_reducible assumption) | assumption)
   obtain ⟨ad121, e121, hx121_0⟩ := Kd.at_int (Kd.R_reads' HO_5.out).2.2 x8_2 p121 q121
   cases e121
   replace p121 := eq_true p121
   replace q121 := eq_true q121
   go_wp2
   go_meet
   case rel => exact ⟨_, (true), (by first | rfl | (simp; done) | (simp [*]; done)), H', ⟨by have := HK1.out; have := HK2.out; first | omega | exact Nat.le_refl _⟩, ⟨by (with_reducible repeat (first | apply Kd.R_alloc | apply Kd.R_drewN | apply Kd.R_drew)); exact HO_4.out⟩, ⟨by (with_reducible repeat (first | apply Kd.R_alloc | apply Kd.R_drewN | apply Kd.R_drew)); exact HO_5.out⟩, ⟨by (with_reducible repeat (first | refine blk_drewN ?_ _ | refine blk_drew ?_ | refine blk_alloc ?_ _)); exact BK116.out⟩, ⟨by repeat (first | (with_reducible first | exact HI114.out | apply IsS69.alloc | apply IsS69.drewN | apply IsS69.drew | refine IsS69.far ?_ (by (repeat (first | exact (Opq.NP.blk BK116.out (by decide)) | (with_reducible apply Opq.NP.setCell) | (with_reducible apply Opq.NP.drewN) | (with_reducible apply Opq.NP.drew) | (with_reducible apply Opq.NP.alloc))); done) _) | exact HI114.out)⟩, ⟨by repeat (first | (with_reducible first | exact HB.out | apply below_alloc | apply pw_below_drewN | apply below_drew1 | refine below_set ?_ (IsS69.ge HI114.out) | refine below_set ?_ GE116.out) | exact HB.out)⟩⟩
  rw [if_pos c29] at H
  have c29b0 : (t118 == (rd x5_1 x8_2)) = true := beq_iff_eq.mpr c29
  have c29b1 : (t118 != (rd x5_1 x8_2)) = false := bne_eq_false_iff_eq.mpr c29
  clear c29
  have H' := Aside0.mk H
  clear H
  obtain ⟨Ao30, co30, eo30⟩ := Kd.R_slice HO_5.out
  subst eo30
  have p121 : 0 ≤ (x8_2 : Int) := of_decide_eq_true (by first | (with_reducible assumption) | assumption)
  have q121 : x8_2 < (x5_1.length : Int) := of_decide_eq_true (by first | (with_reducible assumption) | assumption)
  obtain ⟨ad121, e121, hx121_0⟩ := Kd.at_int (Kd.R_reads' HO_5.out).2.2 x8_2 p121 q121
  cases e121
  replace p121 := eq_true p121
  replace q121 := eq_true q121
  go_wp2
  go_meet
  case rel => exact ⟨_, (false), (by first | rfl | (simp; done) | (simp [*]; done)), H', ⟨by have := HK1.out; have := HK2.out; first | omega | exact Nat.le_refl _⟩, ⟨by (with_reducible repeat (first | apply Kd.R_alloc | apply Kd.R_drewN | apply Kd.R_drew)); exact HO_4.out⟩, ⟨by (with_reducible repeat (first | apply Kd.R_alloc | apply Kd.R_drewN | apply Kd.R_drew)); exact HO_5.out⟩, ⟨by (with_reducible repeat (first | refine blk_drewN ?_ _ | refine blk_drew ?_ | refine blk_alloc ?_ _)); exact BK116.out⟩, ⟨by repeat (first | (with_reducible first | exact HI114.out | apply IsS69.alloc | apply IsS69.drewN | apply IsS69.drew | refine IsS69.far ?_ (by (repeat (first | exact (Opq.NP.blk BK116.out (by decide)) | (with_reducible apply Opq.NP.setCell) | (with_reducible apply Opq.NP.drewN) | (with_reducible apply Opq.NP.drew) | (with_reducible apply Opq.NP.alloc))); done) _) | exact HI114.out)⟩, ⟨by repeat (first | (with_reducible first | exact HB.out | apply below_alloc | apply pw_below_drewN | apply below_drew1 | refine below_set ?_ (IsS69.ge HI114.out) | refine below_set ?_ GE116.out) | exact HB.out)⟩⟩
 case rest => as_aux_lemma =>
  clear HC20
  try clear c1
  try clear p1
  try clear q1
  try clear hx1
  try clear c2
  try clear c2b0
  try clear c2b1
  try clear p2
  try clear c4
  try clear p6
  try clear c7
  try clear c7b0
  try clear c8
  try clear c8b0
  try clear c10
  try clear c11
  try clear p11
  try clear q11
  try clear hx11
  try clear c12
  try clear c12b0
  try clear p12
  try clear q12
  try clear hx12
  try clear c13
  try clear c13b0
  try clear c14
  try clear c14b0
  try clear c14b1
  try clear c22
  try clear c25
  try clear c25b0
  try clear c25b1
  try clear c25b2
  try clear c26
  try clear c27
  try clear c27b0
  try clear c28
  try clear c28b0
  try clear c29
  try clear c29b0
  try clear c29b1
  try clear hcz11_0
  try clear hcz11_1
  try clear hcz11_2
  try clear hcz23_0
  try clear hcz23_1
  try clear hcz23_2
  try clear hfz11_0
  try clear hfz11_1
  try clear hfz11_2
  try clear hfz23_0
  try clear hfz23_1
  try clear hfz23_2
  try clear hx115_0
  try clear hx115_1
  try clear hx115_2
  try clear hx117_0
  try clear hx121_0
  try clear p1
  try clear p11
  try clear p115
  try clear p117
  try clear p121
  try clear p2
  try clear q1
  try clear q11
  try clear q115
  try clear q117
  try clear q121
  obtain ⟨kq, x74_19, rfl, HA, HJ19, HO_4, HO_5, BK116, HI114, HB⟩ := hcut
  cases kq with
  | zero => exact absurd HA.out (by simp [TP.j2])
  | succ kj19 =>
  have H := HA.out
  clear HA
  simp only [TP.j2] at H
  by_cases c32 : x74_19 = true
  ·subst c32
   have H1 : (some false) = some r := by rw [if_pos rfl] at H; exact H
   clear H
   have H := H1
   clear H1
   obtain rfl := Option.some.inj H
   go_wp2
   go_ret
   exact ⟨by first | rfl | (simp [errW_none, errW_some] <;> rfl) | (simp [*, errW_none, errW_some] <;> rfl), by repeat (first | (with_reducible first | exact HB.out | apply below_alloc | apply pw_below_drewN | apply below_drew1 | refine below_set ?_ (IsS69.ge HI114.out) | refine below_set ?_ GE116.out) | exact HB.out)⟩
  replace c32 := Bool.eq_false_iff.mpr c32
  subst c32
  have H1 : (if ((rd_T36 l0 x6_1).f0) = 0 then ((timer_Timers_Set.f t120 ((rd_T36 l0 x6_1).f2) ((rd_T36 l0 x6_1).f1)).bind fun t122 => (if x8_2 ≥ 0 then (if 0 ≤ x8_2 then (if x8_2 < (x5_1.length : Int) then (TP.l0 kj19 l0 x4_1 (x5_1.set (x8_2 : Int).toNat ((rd_T36 l0 x6_1).f1)) (wrap64 (x6_1 + 1)) t122) else (none)) else (none)) else ((some (([((rd_T36 l0 x6_1).f2)] : List ByteArray) : List ByteArray)).bind fun y124 => (if x4_1.length + y124.length < 8796093022208 then ((some (([((rd_T36 l0 x6_1).f1)] : List Int) : List Int)).bind fun y130 => (if x5_1.length + y130.length < 17592186044416 then (TP.l0 kj19 l0 (x4_1 ++ y124) (x5_1 ++ y130) (wrap64 (x6_1 + 1)) t122) else (none))) else (none))))) else (if ((rd_T36 l0 x6_1).f0) = 1 then ((timer_Timers_Stop.f t120 ((rd_T36 l0 x6_1).f2)).bind fun t136 => (TP.j6 kj19 l0 x4_1 x5_1 x6_1 x8_2 t136)) else (TP.l2 kj19 l0 x4_1 x5_1 x6_1 (-1) 0 t120 ((rd_T36 l0 x6_1).f0) ((rd_T36 l0 x6_1).f1) ((rd_T36 l0 x6_1).f2)))) = some r := by rw [if_neg (show ¬ (false = true) by decide)] at H; exact H
  clear H
  have H := H1
  clear H1
  have HC33 := Aside0.mk H
  clear H
  have hnb34 := NB116_114.out
  have hnc34 := NB114_116.out
  have hcz35_0 : wc.cell? ⟨gb116, 0, none⟩ = some (.int .i64 ((rd_T36 l0 x6_1).f0)) := (blk_cell BK116.out 0).trans rfl
  have hcz35_1 : wc.cell? ⟨gb116, 1, none⟩ = some (.int .i64 ((rd_T36 l0 x6_1).f1)) := (blk_cell BK116.out 1).trans rfl
  have hcz35_2 : wc.cell? ⟨gb116, 2, none⟩ = some (.string ((rd_T36 l0 x6_1).f2)) := (blk_cell BK116.out 2).trans rfl
  have hfz35_0 := blk_frozen BK116.out 0
  have hfz35_1 := blk_frozen BK116.out 1
  have hfz35_2 := blk_frozen BK116.out 2
  go_upto_block 4 with (fail)
  go_cut [4, 5, 8] (fun v4 v5 v8 wc => ∃ (kq : Nat) (x4_32 : List ByteArray) (x5_32 : List Int) (x8_32 : Int) (x115000_32 : Timer.TimerM), v8 = .int .i64 x8_32 ∧ Aside0 (TP.j6 kq l0 x4_32 x5_32 x6_1 x8_32 x115000_32 = some r) ∧ Aside0 (kq ≤ kj19) ∧ Aside0 (Kd.R Kd.string 9 wc w.heap.size (fun _ => True) v4 x4_32) ∧ Aside0 (Kd.R (Kd.int .i64) 3 wc w.heap.size (fun _ => True) v5 x5_32) ∧ Aside0 (wc.heap[gb116]? = some (.cells #[.int .i64 ((rd_T36 l0 x6_1).f0), .int .i64 ((rd_T36 l0 x6_1).f1), .string ((rd_T36 l0 x6_1).f2)] 36 (0, 0))) ∧ Aside0 (IsS69 w wc g114 x115000_32) ∧ Aside0 (Below w.heap.size w wc))
  case first => as_aux_lemma =>
   have H := HC33.out
   clear HC33
   by_cases c36 : ((rd_T36 l0 x6_1).f0) = 0
   ·rw [if_pos c36] at H
    have c36b0 : (((rd_T36 l0 x6_1).f0) == 0) = true := beq_iff_eq.mpr c36
    have c36b1 : (((rd_T36 l0 x6_1).f0) != 0) = false := bne_eq_false_iff_eq.mpr c36
    clear c36
    (first | rw [c36b0] | (simp only [i64_w, i32_w]; rw [c36b0]) | skip)
    replace H := Option.bind_eq_some_iff.mp H
    obtain ⟨t122, A370, H⟩ := H
    replace H : (if x8_2 ≥ 0 then (if 0 ≤ x8_2 then (if x8_2 < (x5_1.length : Int) then (TP.l0 kj19 l0 x4_1 (x5_1.set (x8_2 : Int).toNat ((rd_T36 l0 x6_1).f1)) (wrap64 (x6_1 + 1)) t122) else (none)) else (none)) else ((some (([((rd_T36 l0 x6_1).f2)] : List ByteArray) : List ByteArray)).bind fun y124 => (if x4_1.length + y124.length < 8796093022208 then ((some (([((rd_T36 l0 x6_1).f1)] : List Int) : List Int)).bind fun y130 => (if x5_1.length + y130.length < 17592186044416 then (TP.l0 kj19 l0 (x4_1 ++ y124) (x5_1 ++ y130) (wrap64 (x6_1 + 1)) t122) else (none))) else (none)))) = some r := H
    have A37 := Aside0.mk A370
    clear A370
    by_cases c38 : x8_2 ≥ 0
    ·rw [if_pos c38] at H
     have c38b0 : decide (0 ≤ x8_2) = true := decide_eq_true c38
     clear c38
     by_cases c39 : 0 ≤ x8_2
     rotate_left
     ·rw [if_neg c39] at H
      exact absurd H (by simp)
     rw [if_pos c39] at H
     have c39b0 : decide (0 ≤ x8_2) = true := decide_eq_true c39
     clear c39
     by_cases c40 : x8_2 < (x5_1.length : Int)
     rotate_left
     ·rw [if_neg c40] at H
      exact absurd H (by simp)
     rw [if_pos c40] at H
     have c40b0 : decide (x8_2 < (x5_1.length : Int)) = true := decide_eq_true c40
     clear c40
     obtain ⟨y123, hy123⟩ : ∃ y_ : List Int, y_ = (x5_1.set (x8_2 : Int).toNat ((rd_T36 l0 x6_1).f1)) := ⟨_, rfl⟩
     replace H : (TP.l0 kj19 l0 x4_1 y123 (wrap64 (x6_1 + 1)) t122) = some r := by first | (rw [hy123]; with_reducible exact H) | (have H2_ := (Option.bind_some _ _).symm.trans H; rw [hy123]; with_reducible exact H2_) | (have H2_ := (Option.bind_some _ _).symm.trans H; with_reducible exact H2_) | with_reducible exact H | (rw [hy123]; exact H) | exact H
     have Ny123 := Aside0.mk hy123
     clear hy123
     have H' := Aside0.mk H
     clear H
     have hnb42 := NB116_114.out
     have hnc42 := NB114_116.out
     have hcz43_0 : wc.cell? ⟨gb116, 0, none⟩ = some (.int .i64 ((rd_T36 l0 x6_1).f0)) := (blk_cell BK116.out 0).trans rfl
     have hcz43_1 : wc.cell? ⟨gb116, 1, none⟩ = some (.int .i64 ((rd_T36 l0 x6_1).f1)) := (blk_cell BK116.out 1).trans rfl
     have hcz43_2 : wc.cell? ⟨gb116, 2, none⟩ = some (.string ((rd_T36 l0 x6_1).f2)) := (blk_cell BK116.out 2).trans rfl
     have hfz43_0 := blk_frozen BK116.out 0
     have hfz43_1 := blk_frozen BK116.out 1
     have hfz43_2 := blk_frozen BK116.out 2
     go_wp2_with (first | ((with_reducible refine gate_callee (f := 12) rfl ?_); refine goesL_ (some 178) rfl rfl Try.func12 (by kernel_rfl) rfl #[.pointer (some ⟨g114, 0, none⟩), .string ((rd_T36 l0 x6_1).f2), .int .i64 ((rd_T36 l0 x6_1).f1)] rfl (by (try simp only [List.map_toArray, List.map_cons, List.map_nil]); first | done | rfl | (simp only [List.length_drop, List.length_take]; rfl)) ?_; (with_reducible refine (timer_Timers_Set.calls g114 t120 ((rd_T36 l0 x6_1).f2) ((rd_T36 l0 x6_1).f1) t122 w _ ?side1 ?side2 A37.out).mono ?_); (case side1 => repeat (first | (with_reducible first | exact HI114.out | apply IsS69.alloc | apply IsS69.drewN | apply IsS69.drew | refine IsS69.far ?_ (by (repeat (first | exact (Opq.NP.blk BK116.out (by decide)) | (with_reducible apply Opq.NP.setCell) | (with_reducible apply Opq.NP.drewN) | (with_reducible apply Opq.NP.drew) | (with_reducible apply Opq.NP.alloc))); done) _) | exact HI114.out)); (case side2 => repeat (first | (with_reducible first | exact HB.out | apply below_alloc | apply pw_below_drewN | apply below_drew1 | refine below_set ?_ (IsS69.ge HI114.out) | refine below_set ?_ GE116.out) | exact HB.out)); rintro e w44 ⟨rfl, hi, hb, hk⟩; refine ⟨_, rfl, ?_⟩; have n0_ := Aside0.mk (Opq.R_keep (by (with_reducible repeat (first|apply Kd.R_alloc|apply Kd.R_drewN|apply Kd.R_drew)); exact HO_4.out) hk (by decide)); have n1_ := Aside0.mk (Opq.R_keep (by (with_reducible repeat (first|apply Kd.R_alloc|apply Kd.R_drewN|apply Kd.R_drew)); exact HO_5.out) hk (by decide)); have n2_ := Aside0.mk (Opq.KeepO.blk2 hk (g := gb116) (o := .cells #[.int .i64 ((rd_T36 l0 x6_1).f0), .int .i64 ((rd_T36 l0 x6_1).f1), .string ((rd_T36 l0 x6_1).f2)] 36 (0, 0)) (by (with_reducible repeat (first | refine blk_drewN ?_ _ | refine blk_drew ?_ | refine blk_alloc ?_ _)); exact BK116.out) (by rfl)); have n3_ := Aside0.mk (hb); have n4_ := Aside0.mk (hi); clear HO_4; clear HO_5; clear BK116; clear HB; clear HI114; have HO_4 := n0_; have HO_5 := n1_; have BK116 := n2_; have HB := n3_; have HI114 := n4_; clear n0_ n1_ n2_ n3_ n4_; (try clear hb); (try clear hb2); (try clear hk); (try clear hi); have hcz45_0 : w44.cell? ⟨gb116, 0, none⟩ = some (.int .i64 ((rd_T36 l0 x6_1).f0)) := (blk_cell BK116.out 0).trans rfl; have hcz45_1 : w44.cell? ⟨gb116, 1, none⟩ = some (.int .i64 ((rd_T36 l0 x6_1).f1)) := (blk_cell BK116.out 1).trans rfl; have hcz45_2 : w44.cell? ⟨gb116, 2, none⟩ = some (.string ((rd_T36 l0 x6_1).f2)) := (blk_cell BK116.out 2).trans rfl; have hfz45_0 := blk_frozen BK116.out 0; have hfz45_1 := blk_frozen BK116.out 1; have hfz45_2 := blk_frozen BK116.out 2; have p41 : 0 ≤ (x8_2 : Int) := of_decide_eq_true (by first | (with_reducible assumption) | assumption); have q41 : (x8_2 : Int) < ((x5_1.length : Int) : Int) := of_decide_eq_true (by first | (with_reducible assumption) | assumption); obtain ⟨go41, co41, eo41, gb41, gl41, cl41, HG41⟩ := Kd.R_form HO_5.out (by omega); (first | cases eo41 | (injection eo41 with ea_ en_ ec_; (first | subst ea_ | (injection ea_ with ea_; subst ea_)); subst ec_; clear en_)); have GB41 := Aside0.mk gb41; have GG41 := Aside0.mk HG41; clear gb41 gl41 HG41; obtain ⟨hx41_0, hf41_0⟩ := Kd.R_celln 0 HO_5.out (x8_2 : Int) p41 q41; replace p41 := eq_true p41; replace q41 := eq_true q41; obtain ⟨hy46_, hz46_⟩ := Kd.R_celln 0 HO_5.out (x8_2 : Int) (of_decide_eq_true (by first | (with_reducible assumption) | assumption)) (of_decide_eq_true (by first | (with_reducible assumption) | assumption)); have HP46 := Kd.R_putg HO_5.out (x8_2 : Int) ((rd_T36 l0 x6_1).f1)) | ((with_reducible refine gate_store (t := 3) (p := 185) rfl ?_); refine store_event (t := 3) (p := 185) (v := ?vo_w47) (w1 := (w44.setCell ⟨go41, (x8_2 : Int).toNat, none⟩ (.int .i64 ((rd_T36 l0 x6_1).f1)))) ?hg ?ho ?hn ?hr ?_; (case ho => rfl); (case hg => rfl); (case hn => rfl); (case hr => first | (go_simp; done) | (go_simp; rfl) | (go_simp; simp [IntKind.wrap_u8, IntKind.wrap_u32]; done)); intro w47 hw; have hg : w44.grownBy w47 (some go41) := (by rw [hw]; exact HP46.2); have hp_ : Kd.R (Kd.int .i64) 3 w47 w.heap.size (fun _ => True) (.slice (some ⟨go41, 0, none⟩) x5_1.length co41) y123 := (by rw [hw, Ny123.out]; exact HP46.1); clear HP46; have n0_ := Aside0.mk (Kd.R_over' (v := (.slice (some ⟨go41, 0, none⟩) x5_1.length co41)) (by (with_reducible repeat (first|apply Kd.R_alloc|apply Kd.R_drewN|apply Kd.R_drew)); exact HO_4.out) (Kd.R_typed HO_5.out) (by decide) hg); have n1_ := Aside0.mk (hp_); have n2_ := Aside0.mk (blk_grown (g := gb116) (o := .cells #[.int .i64 ((rd_T36 l0 x6_1).f0), .int .i64 ((rd_T36 l0 x6_1).f1), .string ((rd_T36 l0 x6_1).f2)] 36 (0, 0)) (by (with_reducible repeat (first | refine blk_drewN ?_ _ | refine blk_drew ?_ | refine blk_alloc ?_ _)); exact BK116.out) hg (Kd.R_ne HO_5.out BK116.out (by decide))); have n3_ := Aside0.mk (IsS69.grown (by repeat (first | (with_reducible first | exact HI114.out | apply IsS69.alloc | apply IsS69.drewN | apply IsS69.drew | refine IsS69.far ?_ (by (repeat (first | exact (Opq.NP.blk BK116.out (by decide)) | (with_reducible apply Opq.NP.setCell) | (with_reducible apply Opq.NP.drewN) | (with_reducible apply Opq.NP.drew) | (with_reducible apply Opq.NP.alloc))); done) _) | exact HI114.out)) hg (by (repeat (first | exact (Opq.NPr.typed (Kd.R_typed HO_5.out) (by decide)) | (with_reducible apply Opq.NPr.setCell) | (with_reducible apply Opq.NPr.drewN) | (with_reducible apply Opq.NPr.drew) | (with_reducible apply Opq.NPr.alloc))); done)); have n4_ := Aside0.mk ((by rw [hw]; exact below_set (HB.out) GB41.out : Below w.heap.size w w47)); clear HO_4; clear HO_5; clear BK116; clear HI114; clear HB; have HO_4 := n0_; have HO_5 := n1_; have BK116 := n2_; have HI114 := n3_; have HB := n4_; clear n0_ n1_ n2_ n3_ n4_; clear hg hw hp_))
     go_roundg kj19
     case measure => have := HK1.out; have := HK2.out; have := HJ19.out; omega
     case rel => exact ⟨(x4_1), (y123), (wrap64 (x6_1 + 1)), (t122), (by first | rfl | (simp; done) | (simp [*]; done)), H', ⟨by have := HK1.out; have := HK2.out; have := HJ19.out; omega⟩, ⟨by (with_reducible repeat (first | apply Kd.R_alloc | apply Kd.R_drewN | apply Kd.R_drew)); exact HO_4.out⟩, ⟨by (with_reducible repeat (first | apply Kd.R_alloc | apply Kd.R_drewN | apply Kd.R_drew)); exact HO_5.out⟩, ⟨by repeat (first | (with_reducible first | exact HI114.out | apply IsS69.alloc | apply IsS69.drewN | apply IsS69.drew | refine IsS69.far ?_ (by (repeat (first | exact (Opq.NP.blk BK116.out (by decide)) | (with_reducible apply Opq.NP.setCell) | (with_reducible apply Opq.NP.drewN) | (with_reducible apply Opq.NP.drew) | (with_reducible apply Opq.NP.alloc))); done) _) | exact HI114.out)⟩, ⟨by repeat (first | (with_reducible first | exact HB.out | apply below_alloc | apply pw_below_drewN | apply below_drew1 | refine below_set ?_ (IsS69.ge HI114.out) | refine below_set ?_ GE116.out) | exact HB.out)⟩⟩
    rw [if_neg c38] at H
    have c38b0 : decide (0 ≤ x8_2) = false := decide_eq_false c38
    clear c38
    obtain ⟨y124, hy124⟩ : ∃ y_ : List ByteArray, y_ = (([((rd_T36 l0 x6_1).f2)] : List ByteArray)) := ⟨_, rfl⟩
    replace H : (if x4_1.length + y124.length < 8796093022208 then ((some (([((rd_T36 l0 x6_1).f1)] : List Int) : List Int)).bind fun y130 => (if x5_1.length + y130.length < 17592186044416 then (TP.l0 kj19 l0 (x4_1 ++ y124) (x5_1 ++ y130) (wrap64 (x6_1 + 1)) t122) else (none))) else (none)) = some r := by first | (rw [hy124]; with_reducible exact H) | (have H2_ := (Option.bind_some _ _).symm.trans H; rw [hy124]; with_reducible exact H2_) | (have H2_ := (Option.bind_some _ _).symm.trans H; with_reducible exact H2_) | with_reducible exact H | (rw [hy124]; exact H) | exact H
    have Ny124 := Aside0.mk hy124
    clear hy124
    by_cases c48 : x4_1.length + y124.length < 8796093022208
    rotate_left
    ·rw [if_neg c48] at H
     exact absurd H (by simp)
    rw [if_pos c48] at H
    have LMc48 := Aside0.mk c48
    clear c48
    obtain ⟨y127, hy127⟩ : ∃ y_ : List ByteArray, y_ = (x4_1 ++ y124) := ⟨_, rfl⟩
    replace H : ((some (([((rd_T36 l0 x6_1).f1)] : List Int) : List Int)).bind fun y130 => (if x5_1.length + y130.length < 17592186044416 then (TP.l0 kj19 l0 y127 (x5_1 ++ y130) (wrap64 (x6_1 + 1)) t122) else (none))) = some r := by first | (rw [hy127]; with_reducible exact H) | (have H2_ := (Option.bind_some _ _).symm.trans H; rw [hy127]; with_reducible exact H2_) | (have H2_ := (Option.bind_some _ _).symm.trans H; with_reducible exact H2_) | with_reducible exact H | (rw [hy127]; exact H) | exact H
    have Ny127 := Aside0.mk hy127
    clear hy127
    obtain ⟨y130, hy130⟩ : ∃ y_ : List Int, y_ = (([((rd_T36 l0 x6_1).f1)] : List Int)) := ⟨_, rfl⟩
    replace H : (if x5_1.length + y130.length < 17592186044416 then (TP.l0 kj19 l0 y127 (x5_1 ++ y130) (wrap64 (x6_1 + 1)) t122) else (none)) = some r := by first | (rw [hy130]; with_reducible exact H) | (have H2_ := (Option.bind_some _ _).symm.trans H; rw [hy130]; with_reducible exact H2_) | (have H2_ := (Option.bind_some _ _).symm.trans H; with_reducible exact H2_) | with_reducible exact H | (rw [hy130]; exact H) | exact H
    have Ny130 := Aside0.mk hy130
    clear hy130
    by_cases c49 : x5_1.length + y130.length < 17592186044416
    rotate_left
    ·rw [if_neg c49] at H
     exact absurd H (by simp)
    rw [if_pos c49] at H
    have LMc49 := Aside0.mk c49
    clear c49
    obtain ⟨y133, hy133⟩ : ∃ y_ : List Int, y_ = (x5_1 ++ y130) := ⟨_, rfl⟩
    replace H : (TP.l0 kj19 l0 y127 y133 (wrap64 (x6_1 + 1)) t122) = some r := by first | (rw [hy133]; with_reducible exact H) | (have H2_ := (Option.bind_some _ _).symm.trans H; rw [hy133]; with_reducible exact H2_) | (have H2_ := (Option.bind_some _ _).symm.trans H; with_reducible exact H2_) | with_reducible exact H | (rw [hy133]; exact H) | exact H
    have Ny133 := Aside0.mk hy133
    clear hy133
    have H' := Aside0.mk H
    clear H
    have hnb50 := NB116_114.out
    have hnc50 := NB114_116.out
    have hcz51_0 : wc.cell? ⟨gb116, 0, none⟩ = some (.int .i64 ((rd_T36 l0 x6_1).f0)) := (blk_cell BK116.out 0).trans rfl
    have hcz51_1 : wc.cell? ⟨gb116, 1, none⟩ = some (.int .i64 ((rd_T36 l0 x6_1).f1)) := (blk_cell BK116.out 1).trans rfl
    have hcz51_2 : wc.cell? ⟨gb116, 2, none⟩ = some (.string ((rd_T36 l0 x6_1).f2)) := (blk_cell BK116.out 2).trans rfl
    have hfz51_0 := blk_frozen BK116.out 0
    have hfz51_1 := blk_frozen BK116.out 1
    have hfz51_2 := blk_frozen BK116.out 2
    try go_wp2_with (first | ((with_reducible refine gate_callee (f := 12) rfl ?_); refine goesL_ (some 178) rfl rfl Try.func12 (by kernel_rfl) rfl #[.pointer (some ⟨g114, 0, none⟩), .string ((rd_T36 l0 x6_1).f2), .int .i64 ((rd_T36 l0 x6_1).f1)] rfl (by (try simp only [List.map_toArray, List.map_cons, List.map_nil]); first | done | rfl | (simp only [List.length_drop, List.length_take]; rfl)) ?_; (with_reducible refine (timer_Timers_Set.calls g114 t120 ((rd_T36 l0 x6_1).f2) ((rd_T36 l0 x6_1).f1) t122 w _ ?side1 ?side2 A37.out).mono ?_); (case side1 => repeat (first | (with_reducible first | exact HI114.out | apply IsS69.alloc | apply IsS69.drewN | apply IsS69.drew | refine IsS69.far ?_ (by (repeat (first | exact (Opq.NP.blk BK116.out (by decide)) | (with_reducible apply Opq.NP.setCell) | (with_reducible apply Opq.NP.drewN) | (with_reducible apply Opq.NP.drew) | (with_reducible apply Opq.NP.alloc))); done) _) | exact HI114.out)); (case side2 => repeat (first | (with_reducible first | exact HB.out | apply below_alloc | apply pw_below_drewN | apply below_drew1 | refine below_set ?_ (IsS69.ge HI114.out) | refine below_set ?_ GE116.out) | exact HB.out)); rintro e w52 ⟨rfl, hi, hb, hk⟩; refine ⟨_, rfl, ?_⟩; have n0_ := Aside0.mk (Opq.R_keep (by (with_reducible repeat (first|apply Kd.R_alloc|apply Kd.R_drewN|apply Kd.R_drew)); exact HO_4.out) hk (by decide)); have n1_ := Aside0.mk (Opq.R_keep (by (with_reducible repeat (first|apply Kd.R_alloc|apply Kd.R_drewN|apply Kd.R_drew)); exact HO_5.out) hk (by decide)); have n2_ := Aside0.mk (Opq.KeepO.blk2 hk (g := gb116) (o := .cells #[.int .i64 ((rd_T36 l0 x6_1).f0), .int .i64 ((rd_T36 l0 x6_1).f1), .string ((rd_T36 l0 x6_1).f2)] 36 (0, 0)) (by (with_reducible repeat (first | refine blk_drewN ?_ _ | refine blk_drew ?_ | refine blk_alloc ?_ _)); exact BK116.out) (by rfl)); have n3_ := Aside0.mk (hb); have n4_ := Aside0.mk (hi); clear HO_4; clear HO_5; clear BK116; clear HB; clear HI114; have HO_4 := n0_; have HO_5 := n1_; have BK116 := n2_; have HB := n3_; have HI114 := n4_; clear n0_ n1_ n2_ n3_ n4_; (try clear hb); (try clear hb2); (try clear hk); (try clear hi); obtain ⟨Ao53, co53, eo53⟩ := Kd.R_slice HO_5.out; subst eo53))
    have n0_ := Aside0.mk (Kd.R_drew HO_4.out)
    have n1_ := Aside0.mk (Kd.R_drew HO_5.out)
    have n2_ := Aside0.mk (blk_drew BK116.out)
    have n3_ := Aside0.mk (IsS69.drew HI114.out)
    have n4_ := Aside0.mk (below_drew1 HB.out)
    clear HO_4 HO_5 BK116 HI114 HB
    have HO_4 := n0_; have HO_5 := n1_; have BK116 := n2_; have HI114 := n3_; have HB := n4_
    clear n0_ n1_ n2_ n3_ n4_
    refine start_ (n := 12) (S := fun w' => w'.cell? ⟨gb116, 0, none⟩ = some (.int .i64 ((rd_T36 l0 x6_1).f0)) ∧ w'.cell? ⟨gb116, 1, none⟩ = some (.int .i64 ((rd_T36 l0 x6_1).f1)) ∧ w'.cell? ⟨gb116, 2, none⟩ = some (.string ((rd_T36 l0 x6_1).f2))) (ds := []) #[F_,F_,F_,F_,F_,F_,F_,F_,F_,F_,F_,F_] (by kernel_rfl) rfl rfl ⟨(blk_cell BK116.out 0).trans rfl, (blk_cell BK116.out 1).trans rfl, (blk_cell BK116.out 2).trans rfl⟩ (fun hHeld => ?_); refine with_tabW TP.tab33 TP.bits33 (fun HT_ HW_ => ?_)
    generalize w52.drew = w54 at HO_4 HO_5 BK116 HI114 HB hHeld ⊢
    refine pure_ (i := 0) (N := some 186) (v := ?_) (a' := ?_) #[T_,F_,F_,F_,F_,F_,F_,F_,F_,F_,F_,F_] rfl rfl (any_of HT_.out (by kernel_rfl)) (fun _ _ _ h => h) (Or.inl ⟨by rfl, ?_⟩) ?_ ?_
    rotate_left
    ·intro w'
     go_simp
     with_reducible rfl
    rotate_left
    ·simp only [Act.put, q1_, q2_, q3_, i64_w, i32_w]
     rfl
    refine pure_ (i := 1) (N := some 187) (v := ?_) (a' := ?_) #[T_,T_,F_,F_,F_,F_,F_,F_,F_,F_,F_,F_] rfl rfl (any_of HT_.out (by kernel_rfl)) (fun _ _ _ h => h) (Or.inl ⟨by rfl, ?_⟩) ?_ ?_
    rotate_left
    ·intro w'
     go_simp
     with_reducible rfl
    rotate_left
    ·simp only [Act.put, q1_, q2_, q3_, i64_w, i32_w]
     rfl
    refine pure_ (i := 5) (N := some 191) (v := ?_) (a' := ?_) #[T_,T_,F_,F_,F_,T_,F_,F_,F_,F_,F_,F_] rfl rfl (any_of HT_.out (by kernel_rfl)) (fun _ _ _ h => h) (Or.inl ⟨by rfl, ?_⟩) ?_ ?_
    rotate_left
    ·intro w'
     go_simp
     with_reducible rfl
    rotate_left
    ·simp only [Act.put, q1_, q2_, q3_, i64_w, i32_w]
     rfl
    refine pure_ (i := 6) (N := some 192) (v := ?_) (a' := ?_) #[T_,T_,F_,F_,F_,T_,T_,F_,F_,F_,F_,F_] rfl rfl (any_of HT_.out (by kernel_rfl)) (fun _ _ _ h => h) (Or.inl ⟨by rfl, ?_⟩) ?_ ?_
    rotate_left
    ·intro w'
     go_simp
     with_reducible rfl
    rotate_left
    ·simp only [Act.put, q1_, q2_, q3_, i64_w, i32_w]
     rfl
    refine take_ (i := 2) (N := some 188) (v := ?_) (a' := ?_) #[T_,T_,T_,F_,F_,T_,T_,F_,F_,F_,F_,F_] rfl rfl (take_ofW HT_.out HW_.out (by kernel_rfl)) (fun _ _ _ h => h) (Or.inl ⟨by rfl, ?_⟩) hHeld ?_ ?_
    rotate_left
    ·rintro w' ⟨s0, s1, s2⟩
     go_simp
     with_reducible rfl
    rotate_left
    ·simp only [Act.put, q1_, q2_, q3_, i64_w, i32_w]
     rfl
    refine take_ (i := 7) (N := some 193) (v := ?_) (a' := ?_) #[T_,T_,T_,F_,F_,T_,T_,T_,F_,F_,F_,F_] rfl rfl (take_ofW HT_.out HW_.out (by kernel_rfl)) (fun _ _ _ h => h) (Or.inl ⟨by rfl, ?_⟩) hHeld ?_ ?_
    rotate_left
    ·rintro w' ⟨s0, s1, s2⟩
     go_simp
     with_reducible rfl
    rotate_left
    ·simp only [Act.put, q1_, q2_, q3_, i64_w, i32_w]
     rfl
    refine join_ (σ := Value × Value × Value) 3 #[T_,T_,T_,T_,T_,T_,T_,T_,T_,F_,F_,F_] (fun s_ => [(189, s_.1), (190, s_.2.1), (194, s_.2.2)]) (fun s_ w' => (w'.cell? ⟨gb116, 0, none⟩ = some (.int .i64 ((rd_T36 l0 x6_1).f0)) ∧ w'.cell? ⟨gb116, 1, none⟩ = some (.int .i64 ((rd_T36 l0 x6_1).f1)) ∧ w'.cell? ⟨gb116, 2, none⟩ = some (.string ((rd_T36 l0 x6_1).f2))) ∧ (Kd.R Kd.string 9 w' w.heap.size (fun k_ => some k_ ≠ (s_.2.1 : Value).ownBlock) s_.1 y124) ∧ (Kd.R Kd.string 9 w' w.heap.size (fun k_ => some k_ ≠ (s_.1 : Value).ownBlock) s_.2.1 y127) ∧ (Kd.R (Kd.int .i64) 3 w' w.heap.size (fun k_ => some k_ ≠ (.slice Ao53 x5_1.length co53 : Value).ownBlock) s_.2.2 y130) ∧ (Kd.R (Kd.int .i64) 3 w' w.heap.size (fun k_ => some k_ ≠ (s_.2.2 : Value).ownBlock) (.slice Ao53 x5_1.length co53) x5_1) ∧ (w'.heap[gb116]? = some (.cells #[.int .i64 ((rd_T36 l0 x6_1).f0), .int .i64 ((rd_T36 l0 x6_1).f1), .string ((rd_T36 l0 x6_1).f2)] 36 (0, 0))) ∧ (IsS69 w w' g114 t122) ∧ (Below w.heap.size w w')) ?_ ?_
    rotate_left
    ·intro hCont
     refine two_ (i := 3) (j := 8) (Ni := some 189) (Nj := some 194) #[T_,T_,T_,T_,F_,T_,T_,T_,F_,F_,F_,F_] #[T_,T_,T_,F_,F_,T_,T_,T_,T_,F_,F_,F_] rfl rfl rfl rfl (two_of HT_.out (by kernel_rfl)) (by decide) (by decide) (fun K hK => ?_) (fun K hK => ?_)
     ·skip
      refine Kd.R_lit_step Kd.string _ 9 ?hg (N := 189) ?hd (xs := ([((rd_T36 l0 x6_1).f2)] : List ByteArray)) (inner := [.string ((rd_T36 l0 x6_1).f2)]) (ok := fun _ => True) (okp := fun _ => True) ?hr ?hp (fun _ hk => hk) trivial (Below.refl _ _) (Nat.le_refl _) (by simp) ?_; (case hd => rfl); (case hg => rfl); (case hr => first | (go_simp; done) | (go_simp; rfl) | (go_simp; simp [IntKind.wrap_u8, IntKind.wrap_u32]; done)); (case hp => exact (Reps.one (show Kd.M Kd.string _ _ _ ((rd_T36 l0 x6_1).f2) [.string ((rd_T36 l0 x6_1).f2)] from rfl) (Reps.none _ _)))
      intro v125 w55 ho56 hb hg_ hnew_
      clear hg_ hnew_
      (first | rw [← Ny124.out] at ho56 | (simp only [Int.reduceToNat] at ho56; rw [← Ny124.out] at ho56))
      have n0_ := Aside0.mk (Kd.R_elder' (by (with_reducible repeat (first|apply Kd.R_alloc|apply Kd.R_drewN|apply Kd.R_drew)); exact HO_4.out) (Kd.R_base ho56) hb)
      have n1_ := Aside0.mk (Kd.R_below (by (with_reducible repeat (first|apply Kd.R_alloc|apply Kd.R_drewN|apply Kd.R_drew)); exact HO_5.out) hb)
      have n2_ := Aside0.mk (Kd.R_lower (Kd.R_new' ho56 (Kd.R_lt (by (with_reducible repeat (first|apply Kd.R_alloc|apply Kd.R_drewN|apply Kd.R_drew)); exact HO_4.out))) (below_size (by repeat (first | (with_reducible first | exact HB.out | apply below_alloc | apply pw_below_drewN | apply below_drew1 | refine below_set ?_ (IsS69.ge HI114.out) | refine below_set ?_ GE116.out) | exact HB.out))))
      have n3_ := Aside0.mk (blk_below (g := gb116) (o := .cells #[.int .i64 ((rd_T36 l0 x6_1).f0), .int .i64 ((rd_T36 l0 x6_1).f1), .string ((rd_T36 l0 x6_1).f2)] 36 (0, 0)) (by (with_reducible repeat (first | refine blk_drewN ?_ _ | refine blk_drew ?_ | refine blk_alloc ?_ _)); exact BK116.out) hb)
      have n4_ := Aside0.mk (IsS69.below (by repeat (first | (with_reducible first | exact HI114.out | apply IsS69.alloc | apply IsS69.drewN | apply IsS69.drew | refine IsS69.far ?_ (by (repeat (first | exact (Opq.NP.blk BK116.out (by decide)) | (with_reducible apply Opq.NP.setCell) | (with_reducible apply Opq.NP.drewN) | (with_reducible apply Opq.NP.drew) | (with_reducible apply Opq.NP.alloc))); done) _) | exact HI114.out)) hb)
      have n5_ := Aside0.mk (below_step (by repeat (first | (with_reducible first | exact HB.out | apply below_alloc | apply pw_below_drewN | apply below_drew1 | refine below_set ?_ (IsS69.ge HI114.out) | refine below_set ?_ GE116.out) | exact HB.out)) hb)
      clear HO_4 HO_5 BK116 HI114 HB
      have HO_4 := n0_; have HO_5 := n1_; have HO126 := n2_; have BK116 := n3_; have HI114 := n4_; have HB := n5_
      clear n0_ n1_ n2_ n3_ n4_ n5_ hb ho56
      obtain ⟨Ao58, co58, eo58⟩ := Kd.R_slice HO126.out
      (first | subst eo58 | (injection eo58 with f1_ f2_ f3_; have f4_ := f1_.symm; have f5_ := f3_.symm; clear f1_ f2_ f3_; subst f4_; subst f5_))
      refine hK.out _ _ ⟨(blk_cell BK116.out 0).trans rfl, (blk_cell BK116.out 1).trans rfl, (blk_cell BK116.out 2).trans rfl⟩ (fun hHeld => ?_)
      clear hK K
      refine norm_ (a' := ?_) ?_ ?_
      rotate_left
      ·show Act.put _ (some 189) _ = _
       simp only [Act.put, q1_, q2_, q3_, i64_w, i32_w]
       rfl
      refine two_ (i := 4) (j := 8) (Ni := some 190) (Nj := some 194) #[T_,T_,T_,T_,T_,T_,T_,T_,F_,F_,F_,F_] #[T_,T_,T_,T_,F_,T_,T_,T_,T_,F_,F_,F_] rfl rfl rfl rfl (two_of HT_.out (by kernel_rfl)) (by decide) (by decide) (fun K hK => ?_) (fun K hK => ?_)
      ·skip
       refine Kd.R_append_rows_step Kd.string (w0 := w) w.heap.size (by rfl) (.tmp 186) (.tmp 189) 33 9 (.string ⟨#[]⟩) 16 rfl Try.underlying33 info9 rfl (by decide) (by omega) (.slice Ao21 x4_1.length co21) x4_1 y124 _ _ _ (fun k_ => some k_ ≠ (.slice Ao58 y124.length co58 : Value).ownBlock) (fun _ => False) rfl rfl ?aO ?aR (fun _ _ h => h) (fun _ h => h.elim) ?aF ?aB ?aS ?aL ?_
       (case aR => repeat (first | exact (Kd.R_reads' HO126.out).2.2 | (with_reducible refine Kd.C_alloc ?_ _) | (with_reducible refine Kd.C_drewN ?_ _) | (with_reducible refine Kd.C_drew ?_)))
       (case aB => exact (by repeat (first | (with_reducible first | exact HB.out | apply below_alloc | apply pw_below_drewN | apply below_drew1 | refine below_set ?_ (IsS69.ge HI114.out) | refine below_set ?_ GE116.out) | exact HB.out)))
       (case aF => exact (fun k_ hk => Kd.fresh' (Kd.R_lt (by (with_reducible repeat (first|apply Kd.R_alloc|apply Kd.R_drewN|apply Kd.R_drew)); exact HO126.out)) k_ hk))
       (case aO => exact (by (with_reducible repeat (first|apply Kd.R_alloc|apply Kd.R_drewN|apply Kd.R_drew)); exact Kd.R_mono HO_4.out (fun _ hk => hk.2)))
       (case aS => exact (below_size (by repeat (first | (with_reducible first | exact HB.out | apply below_alloc | apply pw_below_drewN | apply below_drew1 | refine below_set ?_ (IsS69.ge HI114.out) | refine below_set ?_ GE116.out) | exact HB.out))))
       (case aL => have := LMc48.out; omega)
       intro v128 w57 ho hb hg hat
       rw [← Ny127.out] at ho
       have n0_ := Aside0.mk (Kd.R_over' (by (with_reducible repeat (first|apply Kd.R_alloc|apply Kd.R_drewN|apply Kd.R_drew)); exact HO_5.out) (Kd.R_typed (by (with_reducible repeat (first|apply Kd.R_alloc|apply Kd.R_drewN|apply Kd.R_drew)); exact HO_4.out)) (by decide) hg)
       have n1_ := Aside0.mk (blk_grown (g := gb116) (o := .cells #[.int .i64 ((rd_T36 l0 x6_1).f0), .int .i64 ((rd_T36 l0 x6_1).f1), .string ((rd_T36 l0 x6_1).f2)] 36 (0, 0)) (by (with_reducible repeat (first | refine blk_drewN ?_ _ | refine blk_drew ?_ | refine blk_alloc ?_ _)); exact BK116.out) hg (Kd.R_ne HO_4.out BK116.out (by decide)))
       have n2_ := Aside0.mk (IsS69.grown (by repeat (first | (with_reducible first | exact HI114.out | apply IsS69.alloc | apply IsS69.drewN | apply IsS69.drew | refine IsS69.far ?_ (by (repeat (first | exact (Opq.NP.blk BK116.out (by decide)) | (with_reducible apply Opq.NP.setCell) | (with_reducible apply Opq.NP.drewN) | (with_reducible apply Opq.NP.drew) | (with_reducible apply Opq.NP.alloc))); done) _) | exact HI114.out)) hg (by (repeat (first | exact (Opq.NPr.typed (Kd.R_typed HO_4.out) (by decide)) | (with_reducible apply Opq.NPr.setCell) | (with_reducible apply Opq.NPr.drewN) | (with_reducible apply Opq.NPr.drew) | (with_reducible apply Opq.NPr.alloc))); done))
       have n3_ := Aside0.mk (Kd.R_after (ok := (fun _ => True)) (by (with_reducible repeat (first|apply Kd.R_alloc|apply Kd.R_drewN|apply Kd.R_drew)); exact HO126.out) hg hat)
       have n4_ := Aside0.mk (hb)
       have n5_ := Aside0.mk (ho)
       clear HO_5 BK116 HI114 HO126 HB HO_4
       have HO_5 := n0_; have BK116 := n1_; have HI114 := n2_; have HO126 := n3_; have HB := n4_; have HO129 := n5_
       clear n0_ n1_ n2_ n3_ n4_ n5_ ho hb hg hat
       refine hK.out _ _ ⟨(blk_cell BK116.out 0).trans rfl, (blk_cell BK116.out 1).trans rfl, (blk_cell BK116.out 2).trans rfl⟩ (fun hHeld => ?_)
       clear hK K
       refine norm_ (a' := ?_) ?_ ?_
       rotate_left
       ·show Act.put _ (some 190) _ = _
        simp only [Act.put, q1_, q2_, q3_, i64_w, i32_w]
        rfl
       refine one_ (i := 8) (N := some 194) #[T_,T_,T_,T_,T_,T_,T_,T_,T_,F_,F_,F_] rfl rfl (one_of HT_.out (by kernel_rfl)) (by decide) (fun K hK => ?_)
       refine Kd.R_lit_step (Kd.int .i64) _ 3 ?hg (N := 194) ?hd (xs := ([((rd_T36 l0 x6_1).f1)] : List Int)) (inner := [.int .i64 ((rd_T36 l0 x6_1).f1)]) (ok := fun _ => True) (okp := fun _ => True) ?hr ?hp (fun _ hk => hk) trivial (Below.refl _ _) (Nat.le_refl _) (by simp) ?_; (case hd => rfl); (case hg => rfl); (case hr => first | (go_simp; done) | (go_simp; rfl) | (go_simp; simp [IntKind.wrap_u8, IntKind.wrap_u32]; done)); (case hp => exact (Reps.one (show Kd.M (Kd.int .i64) _ _ _ ((rd_T36 l0 x6_1).f1) [.int .i64 ((rd_T36 l0 x6_1).f1)] from rfl) (Reps.none _ _)))
       intro v131 w59 ho60 hb hg_ hnew_
       clear hg_ hnew_
       (first | rw [← Ny130.out] at ho60 | (simp only [Int.reduceToNat] at ho60; rw [← Ny130.out] at ho60))
       have n0_ := Aside0.mk (Kd.R_elder' (by (with_reducible repeat (first|apply Kd.R_alloc|apply Kd.R_drewN|apply Kd.R_drew)); exact HO_5.out) (Kd.R_base ho60) hb)
       have n1_ := Aside0.mk (Kd.R_below (by (with_reducible repeat (first|apply Kd.R_alloc|apply Kd.R_drewN|apply Kd.R_drew)); exact HO126.out) hb)
       have n2_ := Aside0.mk (Kd.R_below (by (with_reducible repeat (first|apply Kd.R_alloc|apply Kd.R_drewN|apply Kd.R_drew)); exact HO129.out) hb)
       have n3_ := Aside0.mk (Kd.R_lower (Kd.R_new' ho60 (Kd.R_lt (by (with_reducible repeat (first|apply Kd.R_alloc|apply Kd.R_drewN|apply Kd.R_drew)); exact HO_5.out))) (below_size (by repeat (first | (with_reducible first | exact HB.out | apply below_alloc | apply pw_below_drewN | apply below_drew1 | refine below_set ?_ (IsS69.ge HI114.out) | refine below_set ?_ GE116.out) | exact HB.out))))
       have n4_ := Aside0.mk (blk_below (g := gb116) (o := .cells #[.int .i64 ((rd_T36 l0 x6_1).f0), .int .i64 ((rd_T36 l0 x6_1).f1), .string ((rd_T36 l0 x6_1).f2)] 36 (0, 0)) (by (with_reducible repeat (first | refine blk_drewN ?_ _ | refine blk_drew ?_ | refine blk_alloc ?_ _)); exact BK116.out) hb)
       have n5_ := Aside0.mk (IsS69.below (by repeat (first | (with_reducible first | exact HI114.out | apply IsS69.alloc | apply IsS69.drewN | apply IsS69.drew | refine IsS69.far ?_ (by (repeat (first | exact (Opq.NP.blk BK116.out (by decide)) | (with_reducible apply Opq.NP.setCell) | (with_reducible apply Opq.NP.drewN) | (with_reducible apply Opq.NP.drew) | (with_reducible apply Opq.NP.alloc))); done) _) | exact HI114.out)) hb)
       have n6_ := Aside0.mk (below_step (by repeat (first | (with_reducible first | exact HB.out | apply below_alloc | apply pw_below_drewN | apply below_drew1 | refine below_set ?_ (IsS69.ge HI114.out) | refine below_set ?_ GE116.out) | exact HB.out)) hb)
       clear HO_5 HO126 HO129 BK116 HI114 HB
       have HO_5 := n0_; have HO126 := n1_; have HO129 := n2_; have HO132 := n3_; have BK116 := n4_; have HI114 := n5_; have HB := n6_
       clear n0_ n1_ n2_ n3_ n4_ n5_ n6_ hb ho60
       refine hK.out _ _ ⟨(blk_cell BK116.out 0).trans rfl, (blk_cell BK116.out 1).trans rfl, (blk_cell BK116.out 2).trans rfl⟩ (fun hHeld => ?_)
       clear hK K
       refine norm_ (a' := ?_) ?_ ?_
       rotate_left
       ·show Act.put _ (some 194) _ = _
        simp only [Act.put, q1_, q2_, q3_, i64_w, i32_w]
        rfl
       exact norm_ (by simp only [putAll, Act.put, List.setIfInBounds_toArray, List.set_cons_zero, List.set_cons_succ]) (hCont (.slice Ao58 y124.length co58, v128, v131) _ ⟨hHeld, (by (with_reducible repeat (first|apply Kd.R_alloc|apply Kd.R_drewN|apply Kd.R_drew)); exact Kd.R_mono HO126.out (fun _ hk => hk.2)), (by (with_reducible repeat (first|apply Kd.R_alloc|apply Kd.R_drewN|apply Kd.R_drew)); exact HO129.out), (by (with_reducible repeat (first|apply Kd.R_alloc|apply Kd.R_drewN|apply Kd.R_drew)); exact Kd.R_mono HO132.out (fun _ hk => hk.2)), (by (with_reducible repeat (first|apply Kd.R_alloc|apply Kd.R_drewN|apply Kd.R_drew)); exact Kd.R_mono HO_5.out (fun _ hk => hk.2)), (by (with_reducible repeat (first | refine blk_drewN ?_ _ | refine blk_drew ?_ | refine blk_alloc ?_ _)); exact BK116.out), (by repeat (first | (with_reducible first | exact HI114.out | apply IsS69.alloc | apply IsS69.drewN | apply IsS69.drew | refine IsS69.far ?_ (by (repeat (first | exact (Opq.NP.blk BK116.out (by decide)) | (with_reducible apply Opq.NP.setCell) | (with_reducible apply Opq.NP.drewN) | (with_reducible apply Opq.NP.drew) | (with_reducible apply Opq.NP.alloc))); done) _) | exact HI114.out)), (by repeat (first | (with_reducible first | exact HB.out | apply below_alloc | apply pw_below_drewN | apply below_drew1 | refine below_set ?_ (IsS69.ge HI114.out) | refine below_set ?_ GE116.out) | exact HB.out))⟩)
      skip
      refine Kd.R_lit_step (Kd.int .i64) _ 3 ?hg (N := 194) ?hd (xs := ([((rd_T36 l0 x6_1).f1)] : List Int)) (inner := [.int .i64 ((rd_T36 l0 x6_1).f1)]) (ok := fun _ => True) (okp := fun _ => True) ?hr ?hp (fun _ hk => hk) trivial (Below.refl _ _) (Nat.le_refl _) (by simp) ?_; (case hd => rfl); (case hg => rfl); (case hr => first | (go_simp; done) | (go_simp; rfl) | (go_simp; simp [IntKind.wrap_u8, IntKind.wrap_u32]; done)); (case hp => exact (Reps.one (show Kd.M (Kd.int .i64) _ _ _ ((rd_T36 l0 x6_1).f1) [.int .i64 ((rd_T36 l0 x6_1).f1)] from rfl) (Reps.none _ _)))
      intro v131 w57 ho58 hb hg_ hnew_
      clear hg_ hnew_
      (first | rw [← Ny130.out] at ho58 | (simp only [Int.reduceToNat] at ho58; rw [← Ny130.out] at ho58))
      have n0_ := Aside0.mk (Kd.R_below (by (with_reducible repeat (first|apply Kd.R_alloc|apply Kd.R_drewN|apply Kd.R_drew)); exact HO_4.out) hb)
      have n1_ := Aside0.mk (Kd.R_elder' (by (with_reducible repeat (first|apply Kd.R_alloc|apply Kd.R_drewN|apply Kd.R_drew)); exact HO_5.out) (Kd.R_base ho58) hb)
      have n2_ := Aside0.mk (Kd.R_below (by (with_reducible repeat (first|apply Kd.R_alloc|apply Kd.R_drewN|apply Kd.R_drew)); exact HO126.out) hb)
      have n3_ := Aside0.mk (Kd.R_lower (Kd.R_new' ho58 (Kd.R_lt (by (with_reducible repeat (first|apply Kd.R_alloc|apply Kd.R_drewN|apply Kd.R_drew)); exact HO_5.out))) (below_size (by repeat (first | (with_reducible first | exact HB.out | apply below_alloc | apply pw_below_drewN | apply below_drew1 | refine below_set ?_ (IsS69.ge HI114.out) | refine below_set ?_ GE116.out) | exact HB.out))))
      have n4_ := Aside0.mk (blk_below (g := gb116) (o := .cells #[.int .i64 ((rd_T36 l0 x6_1).f0), .int .i64 ((rd_T36 l0 x6_1).f1), .string ((rd_T36 l0 x6_1).f2)] 36 (0, 0)) (by (with_reducible repeat (first | refine blk_drewN ?_ _ | refine blk_drew ?_ | refine blk_alloc ?_ _)); exact BK116.out) hb)
      have n5_ := Aside0.mk (IsS69.below (by repeat (first | (with_reducible first | exact HI114.out | apply IsS69.alloc | apply IsS69.drewN | apply IsS69.drew | refine IsS69.far ?_ (by (repeat (first | exact (Opq.NP.blk BK116.out (by decide)) | (with_reducible apply Opq.NP.setCell) | (with_reducible apply Opq.NP.drewN) | (with_reducible apply Opq.NP.drew) | (with_reducible apply Opq.NP.alloc))); done) _) | exact HI114.out)) hb)
      have n6_ := Aside0.mk (below_step (by repeat (first | (with_reducible first | exact HB.out | apply below_alloc | apply pw_below_drewN | apply below_drew1 | refine below_set ?_ (IsS69.ge HI114.out) | refine below_set ?_ GE116.out) | exact HB.out)) hb)
      clear HO_4 HO_5 HO126 BK116 HI114 HB
      have HO_4 := n0_; have HO_5 := n1_; have HO126 := n2_; have HO132 := n3_; have BK116 := n4_; have HI114 := n5_; have HB := n6_
      clear n0_ n1_ n2_ n3_ n4_ n5_ n6_ hb ho58
      obtain ⟨Ao60, co60, eo60⟩ := Kd.R_slice HO126.out
      (first | subst eo60 | (injection eo60 with f1_ f2_ f3_; have f4_ := f1_.symm; have f5_ := f3_.symm; clear f1_ f2_ f3_; subst f4_; subst f5_))
      refine hK.out _ _ ⟨(blk_cell BK116.out 0).trans rfl, (blk_cell BK116.out 1).trans rfl, (blk_cell BK116.out 2).trans rfl⟩ (fun hHeld => ?_)
      clear hK K
      refine norm_ (a' := ?_) ?_ ?_
      rotate_left
      ·show Act.put _ (some 194) _ = _
       simp only [Act.put, q1_, q2_, q3_, i64_w, i32_w]
       rfl
      refine one_ (i := 4) (N := some 190) #[T_,T_,T_,T_,T_,T_,T_,T_,T_,F_,F_,F_] rfl rfl (one_of HT_.out (by kernel_rfl)) (by decide) (fun K hK => ?_)
      refine Kd.R_append_rows_step Kd.string (w0 := w) w.heap.size (by rfl) (.tmp 186) (.tmp 189) 33 9 (.string ⟨#[]⟩) 16 rfl Try.underlying33 info9 rfl (by decide) (by omega) (.slice Ao21 x4_1.length co21) x4_1 y124 _ _ _ (fun k_ => some k_ ≠ (.slice Ao60 y124.length co60 : Value).ownBlock) (fun _ => False) rfl rfl ?aO ?aR (fun _ _ h => h) (fun _ h => h.elim) ?aF ?aB ?aS ?aL ?_
      (case aR => repeat (first | exact (Kd.R_reads' HO126.out).2.2 | (with_reducible refine Kd.C_alloc ?_ _) | (with_reducible refine Kd.C_drewN ?_ _) | (with_reducible refine Kd.C_drew ?_)))
      (case aB => exact (by repeat (first | (with_reducible first | exact HB.out | apply below_alloc | apply pw_below_drewN | apply below_drew1 | refine below_set ?_ (IsS69.ge HI114.out) | refine below_set ?_ GE116.out) | exact HB.out)))
      (case aF => exact (fun k_ hk => Kd.fresh' (Kd.R_lt (by (with_reducible repeat (first|apply Kd.R_alloc|apply Kd.R_drewN|apply Kd.R_drew)); exact HO126.out)) k_ hk))
      (case aO => exact (by (with_reducible repeat (first|apply Kd.R_alloc|apply Kd.R_drewN|apply Kd.R_drew)); exact Kd.R_mono HO_4.out (fun _ hk => hk.2)))
      (case aS => exact (below_size (by repeat (first | (with_reducible first | exact HB.out | apply below_alloc | apply pw_below_drewN | apply below_drew1 | refine below_set ?_ (IsS69.ge HI114.out) | refine below_set ?_ GE116.out) | exact HB.out))))
      (case aL => have := LMc48.out; omega)
      intro v128 w59 ho hb hg hat
      rw [← Ny127.out] at ho
      have n0_ := Aside0.mk (Kd.R_over' (by (with_reducible repeat (first|apply Kd.R_alloc|apply Kd.R_drewN|apply Kd.R_drew)); exact HO_5.out) (Kd.R_typed (by (with_reducible repeat (first|apply Kd.R_alloc|apply Kd.R_drewN|apply Kd.R_drew)); exact HO_4.out)) (by decide) hg)
      have n1_ := Aside0.mk (blk_grown (g := gb116) (o := .cells #[.int .i64 ((rd_T36 l0 x6_1).f0), .int .i64 ((rd_T36 l0 x6_1).f1), .string ((rd_T36 l0 x6_1).f2)] 36 (0, 0)) (by (with_reducible repeat (first | refine blk_drewN ?_ _ | refine blk_drew ?_ | refine blk_alloc ?_ _)); exact BK116.out) hg (Kd.R_ne HO_4.out BK116.out (by decide)))
      have n2_ := Aside0.mk (IsS69.grown (by repeat (first | (with_reducible first | exact HI114.out | apply IsS69.alloc | apply IsS69.drewN | apply IsS69.drew | refine IsS69.far ?_ (by (repeat (first | exact (Opq.NP.blk BK116.out (by decide)) | (with_reducible apply Opq.NP.setCell) | (with_reducible apply Opq.NP.drewN) | (with_reducible apply Opq.NP.drew) | (with_reducible apply Opq.NP.alloc))); done) _) | exact HI114.out)) hg (by (repeat (first | exact (Opq.NPr.typed (Kd.R_typed HO_4.out) (by decide)) | (with_reducible apply Opq.NPr.setCell) | (with_reducible apply Opq.NPr.drewN) | (with_reducible apply Opq.NPr.drew) | (with_reducible apply Opq.NPr.alloc))); done))
      have n3_ := Aside0.mk (Kd.R_after (ok := (fun _ => True)) (by (with_reducible repeat (first|apply Kd.R_alloc|apply Kd.R_drewN|apply Kd.R_drew)); exact HO126.out) hg hat)
      have n4_ := Aside0.mk (Kd.R_over' (by (with_reducible repeat (first|apply Kd.R_alloc|apply Kd.R_drewN|apply Kd.R_drew)); exact HO132.out) (Kd.R_typed (by (with_reducible repeat (first|apply Kd.R_alloc|apply Kd.R_drewN|apply Kd.R_drew)); exact HO_4.out)) (by decide) hg)
      have n5_ := Aside0.mk (hb)
      have n6_ := Aside0.mk (ho)
      clear HO_5 BK116 HI114 HO126 HO132 HB HO_4
      have HO_5 := n0_; have BK116 := n1_; have HI114 := n2_; have HO126 := n3_; have HO132 := n4_; have HB := n5_; have HO129 := n6_
      clear n0_ n1_ n2_ n3_ n4_ n5_ n6_ ho hb hg hat
      refine hK.out _ _ ⟨(blk_cell BK116.out 0).trans rfl, (blk_cell BK116.out 1).trans rfl, (blk_cell BK116.out 2).trans rfl⟩ (fun hHeld => ?_)
      clear hK K
      refine norm_ (a' := ?_) ?_ ?_
      rotate_left
      ·show Act.put _ (some 190) _ = _
       simp only [Act.put, q1_, q2_, q3_, i64_w, i32_w]
       rfl
      exact norm_ (by simp only [putAll, Act.put, List.setIfInBounds_toArray, List.set_cons_zero, List.set_cons_succ]) (hCont (.slice Ao60 y124.length co60, v128, v131) _ ⟨hHeld, (by (with_reducible repeat (first|apply Kd.R_alloc|apply Kd.R_drewN|apply Kd.R_drew)); exact Kd.R_mono HO126.out (fun _ hk => hk.2)), (by (with_reducible repeat (first|apply Kd.R_alloc|apply Kd.R_drewN|apply Kd.R_drew)); exact HO129.out), (by (with_reducible repeat (first|apply Kd.R_alloc|apply Kd.R_drewN|apply Kd.R_drew)); exact Kd.R_mono HO132.out (fun _ hk => hk.2)), (by (with_reducible repeat (first|apply Kd.R_alloc|apply Kd.R_drewN|apply Kd.R_drew)); exact Kd.R_mono HO_5.out (fun _ hk => hk.2)), (by (with_reducible repeat (first | refine blk_drewN ?_ _ | refine blk_drew ?_ | refine blk_alloc ?_ _)); exact BK116.out), (by repeat (first | (with_reducible first | exact HI114.out | apply IsS69.alloc | apply IsS69.drewN | apply IsS69.drew | refine IsS69.far ?_ (by (repeat (first | exact (Opq.NP.blk BK116.out (by decide)) | (with_reducible apply Opq.NP.setCell) | (with_reducible apply Opq.NP.drewN) | (with_reducible apply Opq.NP.drew) | (with_reducible apply Opq.NP.alloc))); done) _) | exact HI114.out)), (by repeat (first | (with_reducible first | exact HB.out | apply below_alloc | apply pw_below_drewN | apply below_drew1 | refine below_set ?_ (IsS69.ge HI114.out) | refine below_set ?_ GE116.out) | exact HB.out))⟩)
     skip
     refine Kd.R_lit_step (Kd.int .i64) _ 3 ?hg (N := 194) ?hd (xs := ([((rd_T36 l0 x6_1).f1)] : List Int)) (inner := [.int .i64 ((rd_T36 l0 x6_1).f1)]) (ok := fun _ => True) (okp := fun _ => True) ?hr ?hp (fun _ hk => hk) trivial (Below.refl _ _) (Nat.le_refl _) (by simp) ?_; (case hd => rfl); (case hg => rfl); (case hr => first | (go_simp; done) | (go_simp; rfl) | (go_simp; simp [IntKind.wrap_u8, IntKind.wrap_u32]; done)); (case hp => exact (Reps.one (show Kd.M (Kd.int .i64) _ _ _ ((rd_T36 l0 x6_1).f1) [.int .i64 ((rd_T36 l0 x6_1).f1)] from rfl) (Reps.none _ _)))
     intro v131 w55 ho56 hb hg_ hnew_
     clear hg_ hnew_
     (first | rw [← Ny130.out] at ho56 | (simp only [Int.reduceToNat] at ho56; rw [← Ny130.out] at ho56))
     have n0_ := Aside0.mk (Kd.R_below (by (with_reducible repeat (first|apply Kd.R_alloc|apply Kd.R_drewN|apply Kd.R_drew)); exact HO_4.out) hb)
     have n1_ := Aside0.mk (Kd.R_elder' (by (with_reducible repeat (first|apply Kd.R_alloc|apply Kd.R_drewN|apply Kd.R_drew)); exact HO_5.out) (Kd.R_base ho56) hb)
     have n2_ := Aside0.mk (Kd.R_lower (Kd.R_new' ho56 (Kd.R_lt (by (with_reducible repeat (first|apply Kd.R_alloc|apply Kd.R_drewN|apply Kd.R_drew)); exact HO_5.out))) (below_size (by repeat (first | (with_reducible first | exact HB.out | apply below_alloc | apply pw_below_drewN | apply below_drew1 | refine below_set ?_ (IsS69.ge HI114.out) | refine below_set ?_ GE116.out) | exact HB.out))))
     have n3_ := Aside0.mk (blk_below (g := gb116) (o := .cells #[.int .i64 ((rd_T36 l0 x6_1).f0), .int .i64 ((rd_T36 l0 x6_1).f1), .string ((rd_T36 l0 x6_1).f2)] 36 (0, 0)) (by (with_reducible repeat (first | refine blk_drewN ?_ _ | refine blk_drew ?_ | refine blk_alloc ?_ _)); exact BK116.out) hb)
     have n4_ := Aside0.mk (IsS69.below (by repeat (first | (with_reducible first | exact HI114.out | apply IsS69.alloc | apply IsS69.drewN | apply IsS69.drew | refine IsS69.far ?_ (by (repeat (first | exact (Opq.NP.blk BK116.out (by decide)) | (with_reducible apply Opq.NP.setCell) | (with_reducible apply Opq.NP.drewN) | (with_reducible apply Opq.NP.drew) | (with_reducible apply Opq.NP.alloc))); done) _) | exact HI114.out)) hb)
     have n5_ := Aside0.mk (below_step (by repeat (first | (with_reducible first | exact HB.out | apply below_alloc | apply pw_below_drewN | apply below_drew1 | refine below_set ?_ (IsS69.ge HI114.out) | refine below_set ?_ GE116.out) | exact HB.out)) hb)
     clear HO_4 HO_5 BK116 HI114 HB
     have HO_4 := n0_; have HO_5 := n1_; have HO132 := n2_; have BK116 := n3_; have HI114 := n4_; have HB := n5_
     clear n0_ n1_ n2_ n3_ n4_ n5_ hb ho56
     refine hK.out _ _ ⟨(blk_cell BK116.out 0).trans rfl, (blk_cell BK116.out 1).trans rfl, (blk_cell BK116.out 2).trans rfl⟩ (fun hHeld => ?_)
     clear hK K
     refine norm_ (a' := ?_) ?_ ?_
     rotate_left
     ·show Act.put _ (some 194) _ = _
      simp only [Act.put, q1_, q2_, q3_, i64_w, i32_w]
      rfl
     refine one_ (i := 3) (N := some 189) #[T_,T_,T_,T_,F_,T_,T_,T_,T_,F_,F_,F_] rfl rfl (one_of HT_.out (by kernel_rfl)) (by decide) (fun K hK => ?_)
     refine Kd.R_lit_step Kd.string _ 9 ?hg (N := 189) ?hd (xs := ([((rd_T36 l0 x6_1).f2)] : List ByteArray)) (inner := [.string ((rd_T36 l0 x6_1).f2)]) (ok := fun _ => True) (okp := fun _ => True) ?hr ?hp (fun _ hk => hk) trivial (Below.refl _ _) (Nat.le_refl _) (by simp) ?_; (case hd => rfl); (case hg => rfl); (case hr => first | (go_simp; done) | (go_simp; rfl) | (go_simp; simp [IntKind.wrap_u8, IntKind.wrap_u32]; done)); (case hp => exact (Reps.one (show Kd.M Kd.string _ _ _ ((rd_T36 l0 x6_1).f2) [.string ((rd_T36 l0 x6_1).f2)] from rfl) (Reps.none _ _)))
     intro v125 w57 ho58 hb hg_ hnew_
     clear hg_ hnew_
     (first | rw [← Ny124.out] at ho58 | (simp only [Int.reduceToNat] at ho58; rw [← Ny124.out] at ho58))
     have n0_ := Aside0.mk (Kd.R_elder' (by (with_reducible repeat (first|apply Kd.R_alloc|apply Kd.R_drewN|apply Kd.R_drew)); exact HO_4.out) (Kd.R_base ho58) hb)
     have n1_ := Aside0.mk (Kd.R_below (by (with_reducible repeat (first|apply Kd.R_alloc|apply Kd.R_drewN|apply Kd.R_drew)); exact HO_5.out) hb)
     have n2_ := Aside0.mk (Kd.R_below (by (with_reducible repeat (first|apply Kd.R_alloc|apply Kd.R_drewN|apply Kd.R_drew)); exact HO132.out) hb)
     have n3_ := Aside0.mk (Kd.R_lower (Kd.R_new' ho58 (Kd.R_lt (by (with_reducible repeat (first|apply Kd.R_alloc|apply Kd.R_drewN|apply Kd.R_drew)); exact HO_4.out))) (below_size (by repeat (first | (with_reducible first | exact HB.out | apply below_alloc | apply pw_below_drewN | apply below_drew1 | refine below_set ?_ (IsS69.ge HI114.out) | refine below_set ?_ GE116.out) | exact HB.out))))
     have n4_ := Aside0.mk (blk_below (g := gb116) (o := .cells #[.int .i64 ((rd_T36 l0 x6_1).f0), .int .i64 ((rd_T36 l0 x6_1).f1), .string ((rd_T36 l0 x6_1).f2)] 36 (0, 0)) (by (with_reducible repeat (first | refine blk_drewN ?_ _ | refine blk_drew ?_ | refine blk_alloc ?_ _)); exact BK116.out) hb)
     have n5_ := Aside0.mk (IsS69.below (by repeat (first | (with_reducible first | exact HI114.out | apply IsS69.alloc | apply IsS69.drewN | apply IsS69.drew | refine IsS69.far ?_ (by (repeat (first | exact (Opq.NP.blk BK116.out (by decide)) | (with_reducible apply Opq.NP.setCell) | (with_reducible apply Opq.NP.drewN) | (with_reducible apply Opq.NP.drew) | (with_reducible apply Opq.NP.alloc))); done) _) | exact HI114.out)) hb)
     have n6_ := Aside0.mk (below_step (by repeat (first | (with_reducible first | exact HB.out | apply below_alloc | apply pw_below_drewN | apply below_drew1 | refine below_set ?_ (IsS69.ge HI114.out) | refine below_set ?_ GE116.out) | exact HB.out)) hb)
     clear HO_4 HO_5 HO132 BK116 HI114 HB
     have HO_4 := n0_; have HO_5 := n1_; have HO132 := n2_; have HO126 := n3_; have BK116 := n4_; have HI114 := n5_; have HB := n6_
     clear n0_ n1_ n2_ n3_ n4_ n5_ n6_ hb ho58
     obtain ⟨Ao60, co60, eo60⟩ := Kd.R_slice HO126.out
     (first | subst eo60 | (injection eo60 with f1_ f2_ f3_; have f4_ := f1_.symm; have f5_ := f3_.symm; clear f1_ f2_ f3_; subst f4_; subst f5_))
     refine hK.out _ _ ⟨(blk_cell BK116.out 0).trans rfl, (blk_cell BK116.out 1).trans rfl, (blk_cell BK116.out 2).trans rfl⟩ (fun hHeld => ?_)
     clear hK K
     refine norm_ (a' := ?_) ?_ ?_
     rotate_left
     ·show Act.put _ (some 189) _ = _
      simp only [Act.put, q1_, q2_, q3_, i64_w, i32_w]
      rfl
     refine one_ (i := 4) (N := some 190) #[T_,T_,T_,T_,T_,T_,T_,T_,T_,F_,F_,F_] rfl rfl (one_of HT_.out (by kernel_rfl)) (by decide) (fun K hK => ?_)
     refine Kd.R_append_rows_step Kd.string (w0 := w) w.heap.size (by rfl) (.tmp 186) (.tmp 189) 33 9 (.string ⟨#[]⟩) 16 rfl Try.underlying33 info9 rfl (by decide) (by omega) (.slice Ao21 x4_1.length co21) x4_1 y124 _ _ _ (fun k_ => some k_ ≠ (.slice Ao60 y124.length co60 : Value).ownBlock) (fun _ => False) rfl rfl ?aO ?aR (fun _ _ h => h) (fun _ h => h.elim) ?aF ?aB ?aS ?aL ?_
     (case aR => repeat (first | exact (Kd.R_reads' HO126.out).2.2 | (with_reducible refine Kd.C_alloc ?_ _) | (with_reducible refine Kd.C_drewN ?_ _) | (with_reducible refine Kd.C_drew ?_)))
     (case aB => exact (by repeat (first | (with_reducible first | exact HB.out | apply below_alloc | apply pw_below_drewN | apply below_drew1 | refine below_set ?_ (IsS69.ge HI114.out) | refine below_set ?_ GE116.out) | exact HB.out)))
     (case aF => exact (fun k_ hk => Kd.fresh' (Kd.R_lt (by (with_reducible repeat (first|apply Kd.R_alloc|apply Kd.R_drewN|apply Kd.R_drew)); exact HO126.out)) k_ hk))
     (case aO => exact (by (with_reducible repeat (first|apply Kd.R_alloc|apply Kd.R_drewN|apply Kd.R_drew)); exact Kd.R_mono HO_4.out (fun _ hk => hk.2)))
     (case aS => exact (below_size (by repeat (first | (with_reducible first | exact HB.out | apply below_alloc | apply pw_below_drewN | apply below_drew1 | refine below_set ?_ (IsS69.ge HI114.out) | refine below_set ?_ GE116.out) | exact HB.out))))
     (case aL => have := LMc48.out; omega)
     intro v128 w59 ho hb hg hat
     rw [← Ny127.out] at ho
     have n0_ := Aside0.mk (Kd.R_over' (by (with_reducible repeat (first|apply Kd.R_alloc|apply Kd.R_drewN|apply Kd.R_drew)); exact HO_5.out) (Kd.R_typed (by (with_reducible repeat (first|apply Kd.R_alloc|apply Kd.R_drewN|apply Kd.R_drew)); exact HO_4.out)) (by decide) hg)
     have n1_ := Aside0.mk (blk_grown (g := gb116) (o := .cells #[.int .i64 ((rd_T36 l0 x6_1).f0), .int .i64 ((rd_T36 l0 x6_1).f1), .string ((rd_T36 l0 x6_1).f2)] 36 (0, 0)) (by (with_reducible repeat (first | refine blk_drewN ?_ _ | refine blk_drew ?_ | refine blk_alloc ?_ _)); exact BK116.out) hg (Kd.R_ne HO_4.out BK116.out (by decide)))
     have n2_ := Aside0.mk (IsS69.grown (by repeat (first | (with_reducible first | exact HI114.out | apply IsS69.alloc | apply IsS69.drewN | apply IsS69.drew | refine IsS69.far ?_ (by (repeat (first | exact (Opq.NP.blk BK116.out (by decide)) | (with_reducible apply Opq.NP.setCell) | (with_reducible apply Opq.NP.drewN) | (with_reducible apply Opq.NP.drew) | (with_reducible apply Opq.NP.alloc))); done) _) | exact HI114.out)) hg (by (repeat (first | exact (Opq.NPr.typed (Kd.R_typed HO_4.out) (by decide)) | (with_reducible apply Opq.NPr.setCell) | (with_reducible apply Opq.NPr.drewN) | (with_reducible apply Opq.NPr.drew) | (with_reducible apply Opq.NPr.alloc))); done))
     have n3_ := Aside0.mk (Kd.R_over' (by (with_reducible repeat (first|apply Kd.R_alloc|apply Kd.R_drewN|apply Kd.R_drew)); exact HO132.out) (Kd.R_typed (by (with_reducible repeat (first|apply Kd.R_alloc|apply Kd.R_drewN|apply Kd.R_drew)); exact HO_4.out)) (by decide) hg)
     have n4_ := Aside0.mk (Kd.R_after (ok := (fun _ => True)) (by (with_reducible repeat (first|apply Kd.R_alloc|apply Kd.R_drewN|apply Kd.R_drew)); exact HO126.out) hg hat)
     have n5_ := Aside0.mk (hb)
     have n6_ := Aside0.mk (ho)
     clear HO_5 BK116 HI114 HO132 HO126 HB HO_4
     have HO_5 := n0_; have BK116 := n1_; have HI114 := n2_; have HO132 := n3_; have HO126 := n4_; have HB := n5_; have HO129 := n6_
     clear n0_ n1_ n2_ n3_ n4_ n5_ n6_ ho hb hg hat
     refine hK.out _ _ ⟨(blk_cell BK116.out 0).trans rfl, (blk_cell BK116.out 1).trans rfl, (blk_cell BK116.out 2).trans rfl⟩ (fun hHeld => ?_)
     clear hK K
     refine norm_ (a' := ?_) ?_ ?_
     rotate_left
     ·show Act.put _ (some 190) _ = _
      simp only [Act.put, q1_, q2_, q3_, i64_w, i32_w]
      rfl
     exact norm_ (by simp only [putAll, Act.put, List.setIfInBounds_toArray, List.set_cons_zero, List.set_cons_succ]) (hCont (.slice Ao60 y124.length co60, v128, v131) _ ⟨hHeld, (by (with_reducible repeat (first|apply Kd.R_alloc|apply Kd.R_drewN|apply Kd.R_drew)); exact Kd.R_mono HO126.out (fun _ hk => hk.2)), (by (with_reducible repeat (first|apply Kd.R_alloc|apply Kd.R_drewN|apply Kd.R_drew)); exact HO129.out), (by (with_reducible repeat (first|apply Kd.R_alloc|apply Kd.R_drewN|apply Kd.R_drew)); exact Kd.R_mono HO132.out (fun _ hk => hk.2)), (by (with_reducible repeat (first|apply Kd.R_alloc|apply Kd.R_drewN|apply Kd.R_drew)); exact Kd.R_mono HO_5.out (fun _ hk => hk.2)), (by (with_reducible repeat (first | refine blk_drewN ?_ _ | refine blk_drew ?_ | refine blk_alloc ?_ _)); exact BK116.out), (by repeat (first | (with_reducible first | exact HI114.out | apply IsS69.alloc | apply IsS69.drewN | apply IsS69.drew | refine IsS69.far ?_ (by (repeat (first | exact (Opq.NP.blk BK116.out (by decide)) | (with_reducible apply Opq.NP.setCell) | (with_reducible apply Opq.NP.drewN) | (with_reducible apply Opq.NP.drew) | (with_reducible apply Opq.NP.alloc))); done) _) | exact HI114.out)), (by repeat (first | (with_reducible first | exact HB.out | apply below_alloc | apply pw_below_drewN | apply below_drew1 | refine below_set ?_ (IsS69.ge HI114.out) | refine below_set ?_ GE116.out) | exact HB.out))⟩)
    rintro ⟨v125, v128, v131⟩ w61 ⟨hS_, h0_, h1_, h2_, h3_, h4_, h5_, h6_⟩
    have n0_ : Aside0 (Kd.R Kd.string 9 w61 w.heap.size (fun k_ => some k_ ≠ (v128 : Value).ownBlock) v125 y124) := ⟨h0_⟩
    have n1_ : Aside0 (Kd.R Kd.string 9 w61 w.heap.size (fun k_ => some k_ ≠ (v125 : Value).ownBlock) v128 y127) := ⟨h1_⟩
    have n2_ : Aside0 (Kd.R (Kd.int .i64) 3 w61 w.heap.size (fun k_ => some k_ ≠ (.slice Ao53 x5_1.length co53 : Value).ownBlock) v131 y130) := ⟨h2_⟩
    have n3_ : Aside0 (Kd.R (Kd.int .i64) 3 w61 w.heap.size (fun k_ => some k_ ≠ (v131 : Value).ownBlock) (.slice Ao53 x5_1.length co53) x5_1) := ⟨h3_⟩
    have n4_ : Aside0 (w61.heap[gb116]? = some (.cells #[.int .i64 ((rd_T36 l0 x6_1).f0), .int .i64 ((rd_T36 l0 x6_1).f1), .string ((rd_T36 l0 x6_1).f2)] 36 (0, 0))) := ⟨h4_⟩
    have n5_ : Aside0 (IsS69 w w61 g114 t122) := ⟨h5_⟩
    have n6_ : Aside0 (Below w.heap.size w w61) := ⟨h6_⟩
    clear HO_4 HO_5 BK116 HI114 HB h0_ h1_ h2_ h3_ h4_ h5_ h6_
    have HO126 := n0_; have HO129 := n1_; have HO132 := n2_; have HO_5 := n3_; have BK116 := n4_; have HI114 := n5_; have HB := n6_
    clear n0_ n1_ n2_ n3_ n4_ n5_ n6_
    have hHeld : w61.cell? ⟨gb116, 0, none⟩ = some (.int .i64 ((rd_T36 l0 x6_1).f0)) ∧ w61.cell? ⟨gb116, 1, none⟩ = some (.int .i64 ((rd_T36 l0 x6_1).f1)) ∧ w61.cell? ⟨gb116, 2, none⟩ = some (.string ((rd_T36 l0 x6_1).f2)) := hS_
    obtain ⟨Ao63, co63, eo63⟩ := Kd.R_slice HO132.out
    (first | subst eo63 | (injection eo63 with f1_ f2_ f3_; have f4_ := f1_.symm; have f5_ := f3_.symm; clear f1_ f2_ f3_; subst f4_; subst f5_))
    refine norm_ (a' := ?_) ?_ ?_
    rotate_left
    ·simp only [putAll, Act.put, List.setIfInBounds_toArray, List.set_cons_zero, List.set_cons_succ]
     rfl
    refine one_ (i := 9) (N := some 195) #[T_,T_,T_,T_,T_,T_,T_,T_,T_,T_,F_,F_] rfl rfl (one_of HT_.out (by kernel_rfl)) (by decide) (fun K hK => ?_)
    refine Kd.R_append_rows_step (Kd.int .i64) (w0 := w) w.heap.size (by rfl) (.tmp 191) (.tmp 194) 34 3 (.int .i64 0) 8 rfl Try.underlying34 info3 rfl (by decide) (by omega) (.slice Ao53 x5_1.length co53) x5_1 y130 _ _ _ (fun k_ => some k_ ≠ (.slice Ao63 y130.length co63 : Value).ownBlock) (fun _ => False) rfl rfl ?aO ?aR (fun _ _ h => h) (fun _ h => h.elim) ?aF ?aB ?aS ?aL ?_
    (case aR => repeat (first | exact (Kd.R_reads' HO132.out).2.2 | (with_reducible refine Kd.C_alloc ?_ _) | (with_reducible refine Kd.C_drewN ?_ _) | (with_reducible refine Kd.C_drew ?_)))
    (case aB => exact (by repeat (first | (with_reducible first | exact HB.out | apply below_alloc | apply pw_below_drewN | apply below_drew1 | refine below_set ?_ (IsS69.ge HI114.out) | refine below_set ?_ GE116.out) | exact HB.out)))
    (case aF => exact (fun k_ hk => Kd.fresh' (Kd.R_lt (by (with_reducible repeat (first|apply Kd.R_alloc|apply Kd.R_drewN|apply Kd.R_drew)); exact HO132.out)) k_ hk))
    (case aO => exact (by (with_reducible repeat (first|apply Kd.R_alloc|apply Kd.R_drewN|apply Kd.R_drew)); exact HO_5.out))
    (case aS => exact (below_size (by repeat (first | (with_reducible first | exact HB.out | apply below_alloc | apply pw_below_drewN | apply below_drew1 | refine below_set ?_ (IsS69.ge HI114.out) | refine below_set ?_ GE116.out) | exact HB.out))))
    (case aL => have := LMc49.out; omega)
    intro v134 w62 ho hb hg hat
    rw [← Ny133.out] at ho
    have n0_ := Aside0.mk (blk_grown (g := gb116) (o := .cells #[.int .i64 ((rd_T36 l0 x6_1).f0), .int .i64 ((rd_T36 l0 x6_1).f1), .string ((rd_T36 l0 x6_1).f2)] 36 (0, 0)) (by (with_reducible repeat (first | refine blk_drewN ?_ _ | refine blk_drew ?_ | refine blk_alloc ?_ _)); exact BK116.out) hg (Kd.R_ne HO_5.out BK116.out (by decide)))
    have n1_ := Aside0.mk (IsS69.grown (by repeat (first | (with_reducible first | exact HI114.out | apply IsS69.alloc | apply IsS69.drewN | apply IsS69.drew | refine IsS69.far ?_ (by (repeat (first | exact (Opq.NP.blk BK116.out (by decide)) | (with_reducible apply Opq.NP.setCell) | (with_reducible apply Opq.NP.drewN) | (with_reducible apply Opq.NP.drew) | (with_reducible apply Opq.NP.alloc))); done) _) | exact HI114.out)) hg (by (repeat (first | exact (Opq.NPr.typed (Kd.R_typed HO_5.out) (by decide)) | (with_reducible apply Opq.NPr.setCell) | (with_reducible apply Opq.NPr.drewN) | (with_reducible apply Opq.NPr.drew) | (with_reducible apply Opq.NPr.alloc))); done))
    have n2_ := Aside0.mk (Kd.R_over' (by (with_reducible repeat (first|apply Kd.R_alloc|apply Kd.R_drewN|apply Kd.R_drew)); exact HO126.out) (Kd.R_typed (by (with_reducible repeat (first|apply Kd.R_alloc|apply Kd.R_drewN|apply Kd.R_drew)); exact HO_5.out)) (by decide) hg)
    have n3_ := Aside0.mk (Kd.R_over' (by (with_reducible repeat (first|apply Kd.R_alloc|apply Kd.R_drewN|apply Kd.R_drew)); exact HO129.out) (Kd.R_typed (by (with_reducible repeat (first|apply Kd.R_alloc|apply Kd.R_drewN|apply Kd.R_drew)); exact HO_5.out)) (by decide) hg)
    have n4_ := Aside0.mk (Kd.R_after (ok := (fun _ => True)) (by (with_reducible repeat (first|apply Kd.R_alloc|apply Kd.R_drewN|apply Kd.R_drew)); exact Kd.R_mono HO132.out (fun _ hk => ⟨trivial, hk⟩)) hg hat)
    have n5_ := Aside0.mk (hb)
    have n6_ := Aside0.mk (ho)
    clear BK116 HI114 HO126 HO129 HO132 HB HO_5
    have BK116 := n0_; have HI114 := n1_; have HO126 := n2_; have HO129 := n3_; have HO132 := n4_; have HB := n5_; have HO135 := n6_
    clear n0_ n1_ n2_ n3_ n4_ n5_ n6_ ho hb hg hat
    refine hK.out _ _ ⟨(blk_cell BK116.out 0).trans rfl, (blk_cell BK116.out 1).trans rfl, (blk_cell BK116.out 2).trans rfl⟩ (fun hHeld => ?_)
    clear hK K
    refine norm_ (a' := ?_) ?_ ?_
    rotate_left
    ·show Act.put _ (some 195) _ = _
     simp only [Act.put, q1_, q2_, q3_, i64_w, i32_w]
     rfl
    refine pure_ (i := 10) (N := some 4) (v := ?_) (a' := ?_) #[T_,T_,T_,T_,T_,T_,T_,T_,T_,T_,T_,F_] rfl rfl (any_of HT_.out (by kernel_rfl)) (fun _ _ _ h => h) (Or.inl ⟨by rfl, ?_⟩) ?_ ?_
    rotate_left
    ·intro w'
     go_simp
     with_reducible rfl
    rotate_left
    ·simp only [Act.put, q1_, q2_, q3_, i64_w, i32_w]
     rfl
    refine pure_ (i := 11) (N := some 5) (v := ?_) (a' := ?_) #[T_,T_,T_,T_,T_,T_,T_,T_,T_,T_,T_,T_] rfl rfl (any_of HT_.out (by kernel_rfl)) (fun _ _ _ h => h) (Or.inl ⟨by rfl, ?_⟩) ?_ ?_
    rotate_left
    ·intro w'
     go_simp
     with_reducible rfl
    rotate_left
    ·simp only [Act.put, q1_, q2_, q3_, i64_w, i32_w]
     rfl
    refine done_ (done_of HT_.out (by kernel_rfl)) ?_
    try go_wp2
    go_roundg kj19
    case measure => have := HK1.out; have := HK2.out; have := HJ19.out; omega
    case rel => exact ⟨(y127), (y133), (wrap64 (x6_1 + 1)), (t122), (by first | rfl | (simp; done) | (simp [*]; done)), H', ⟨by have := HK1.out; have := HK2.out; have := HJ19.out; omega⟩, ⟨by (with_reducible repeat (first | apply Kd.R_alloc | apply Kd.R_drewN | apply Kd.R_drew)); exact Kd.R_mono HO129.out (fun _ hk => trivial)⟩, ⟨by (with_reducible repeat (first | apply Kd.R_alloc | apply Kd.R_drewN | apply Kd.R_drew)); exact Kd.R_mono HO135.out (fun _ hk => trivial)⟩, ⟨by repeat (first | (with_reducible first | exact HI114.out | apply IsS69.alloc | apply IsS69.drewN | apply IsS69.drew | refine IsS69.far ?_ (by (repeat (first | exact (Opq.NP.blk BK116.out (by decide)) | (with_reducible apply Opq.NP.setCell) | (with_reducible apply Opq.NP.drewN) | (with_reducible apply Opq.NP.drew) | (with_reducible apply Opq.NP.alloc))); done) _) | exact HI114.out)⟩, ⟨by repeat (first | (with_reducible first | exact HB.out | apply below_alloc | apply pw_below_drewN | apply below_drew1 | refine below_set ?_ (IsS69.ge HI114.out) | refine below_set ?_ GE116.out) | exact HB.out)⟩⟩
   rw [if_neg c36] at H
   have c36b0 : (((rd_T36 l0 x6_1).f0) == 0) = false := beq_eq_false_iff_ne.mpr c36
   have c36b1 : (((rd_T36 l0 x6_1).f0) != 0) = true := bne_iff_ne.mpr c36
   (first | rw [c36b0] | (simp only [i64_w, i32_w]; rw [c36b0]) | skip)
   by_cases c64 : ((rd_T36 l0 x6_1).f0) = 1
   ·rw [if_pos c64] at H
    have c64b0 : (((rd_T36 l0 x6_1).f0) == 1) = true := beq_iff_eq.mpr c64
    have c64b1 : (((rd_T36 l0 x6_1).f0) != 1) = false := bne_eq_false_iff_eq.mpr c64
    clear c64
    replace H := Option.bind_eq_some_iff.mp H
    obtain ⟨t136, A650, H⟩ := H
    replace H : (TP.j6 kj19 l0 x4_1 x5_1 x6_1 x8_2 t136) = some r := H
    have A65 := Aside0.mk A650
    clear A650
    have H' := Aside0.mk H
    clear H
    have hnb66 := NB116_114.out
    have hnc66 := NB114_116.out
    have hcz67_0 : wc.cell? ⟨gb116, 0, none⟩ = some (.int .i64 ((rd_T36 l0 x6_1).f0)) := (blk_cell BK116.out 0).trans rfl
    have hcz67_1 : wc.cell? ⟨gb116, 1, none⟩ = some (.int .i64 ((rd_T36 l0 x6_1).f1)) := (blk_cell BK116.out 1).trans rfl
    have hcz67_2 : wc.cell? ⟨gb116, 2, none⟩ = some (.string ((rd_T36 l0 x6_1).f2)) := (blk_cell BK116.out 2).trans rfl
    have hfz67_0 := blk_frozen BK116.out 0
    have hfz67_1 := blk_frozen BK116.out 1
    have hfz67_2 := blk_frozen BK116.out 2
    go_wp2_with (first | ((with_reducible refine gate_callee (f := 15) rfl ?_); refine goesL_ (some 201) rfl rfl Try.func15 (by kernel_rfl) rfl #[.pointer (some ⟨g114, 0, none⟩), .string ((rd_T36 l0 x6_1).f2)] rfl (by (try simp only [List.map_toArray, List.map_cons, List.map_nil]); first | done | rfl | (simp only [List.length_drop, List.length_take]; rfl)) ?_; (with_reducible refine (timer_Timers_Stop.calls g114 t120 ((rd_T36 l0 x6_1).f2) t136 w _ ?side1 ?side2 A65.out).mono ?_); (case side1 => repeat (first | (with_reducible first | exact HI114.out | apply IsS69.alloc | apply IsS69.drewN | apply IsS69.drew | refine IsS69.far ?_ (by (repeat (first | exact (Opq.NP.blk BK116.out (by decide)) | (with_reducible apply Opq.NP.setCell) | (with_reducible apply Opq.NP.drewN) | (with_reducible apply Opq.NP.drew) | (with_reducible apply Opq.NP.alloc))); done) _) | exact HI114.out)); (case side2 => repeat (first | (with_reducible first | exact HB.out | apply below_alloc | apply pw_below_drewN | apply below_drew1 | refine below_set ?_ (IsS69.ge HI114.out) | refine below_set ?_ GE116.out) | exact HB.out)); rintro e w68 ⟨rfl, hi, hb, hk⟩; refine ⟨_, rfl, ?_⟩; have n0_ := Aside0.mk (Opq.R_keep (by (with_reducible repeat (first|apply Kd.R_alloc|apply Kd.R_drewN|apply Kd.R_drew)); exact HO_4.out) hk (by decide)); have n1_ := Aside0.mk (Opq.R_keep (by (with_reducible repeat (first|apply Kd.R_alloc|apply Kd.R_drewN|apply Kd.R_drew)); exact HO_5.out) hk (by decide)); have n2_ := Aside0.mk (Opq.KeepO.blk2 hk (g := gb116) (o := .cells #[.int .i64 ((rd_T36 l0 x6_1).f0), .int .i64 ((rd_T36 l0 x6_1).f1), .string ((rd_T36 l0 x6_1).f2)] 36 (0, 0)) (by (with_reducible repeat (first | refine blk_drewN ?_ _ | refine blk_drew ?_ | refine blk_alloc ?_ _)); exact BK116.out) (by rfl)); have n3_ := Aside0.mk (hb); have n4_ := Aside0.mk (hi); clear HO_4; clear HO_5; clear BK116; clear HB; clear HI114; have HO_4 := n0_; have HO_5 := n1_; have BK116 := n2_; have HB := n3_; have HI114 := n4_; clear n0_ n1_ n2_ n3_ n4_; (try clear hb); (try clear hb2); (try clear hk); (try clear hi)))
    go_meet
    case rel => exact ⟨_, (x4_1), (x5_1), (x8_2), (t136), (by first | rfl | (simp; done) | (simp [*]; done)), H', ⟨by have := HK1.out; have := HK2.out; have := HJ19.out; first | omega | exact Nat.le_refl _⟩, ⟨by (with_reducible repeat (first | apply Kd.R_alloc | apply Kd.R_drewN | apply Kd.R_drew)); exact HO_4.out⟩, ⟨by (with_reducible repeat (first | apply Kd.R_alloc | apply Kd.R_drewN | apply Kd.R_drew)); exact HO_5.out⟩, ⟨by (with_reducible repeat (first | refine blk_drewN ?_ _ | refine blk_drew ?_ | refine blk_alloc ?_ _)); exact BK116.out⟩, ⟨by repeat (first | (with_reducible first | exact HI114.out | apply IsS69.alloc | apply IsS69.drewN | apply IsS69.drew | refine IsS69.far ?_ (by (repeat (first | exact (Opq.NP.blk BK116.out (by decide)) | (with_reducible apply Opq.NP.setCell) | (with_reducible apply Opq.NP.drewN) | (with_reducible apply Opq.NP.drew) | (with_reducible apply Opq.NP.alloc))); done) _) | exact HI114.out)⟩, ⟨by repeat (first | (with_reducible first | exact HB.out | apply below_alloc | apply pw_below_drewN | apply below_drew1 | refine below_set ?_ (IsS69.ge HI114.out) | refine below_set ?_ GE116.out) | exact HB.out)⟩⟩
   rw [if_neg c64] at H
   have c64b0 : (((rd_T36 l0 x6_1).f0) == 1) = false := beq_eq_false_iff_ne.mpr c64
   have c64b1 : (((rd_T36 l0 x6_1).f0) != 1) = true := bne_iff_ne.mpr c64
   have H' := Aside0.mk H
   clear H
   go_wp2
   go_loopg [8, 12] kj19 (fun kq v8 v12 w' => ∃ (x8_4 : Int) (x12_4 : Int), v8 = .int .i64 x8_4 ∧ v12 = .int .i64 x12_4 ∧ Aside0 (TP.l2 kq l0 x4_1 x5_1 x6_1 x8_4 x12_4 t120 ((rd_T36 l0 x6_1).f0) ((rd_T36 l0 x6_1).f1) ((rd_T36 l0 x6_1).f2) = some r) ∧ Aside0 (kq ≤ kj19) ∧ Aside0 (Kd.R Kd.string 9 w' w.heap.size (fun _ => True) (.slice Ao21 x4_1.length co21) x4_1) ∧ Aside0 (Kd.R (Kd.int .i64) 3 w' w.heap.size (fun _ => True) u5 x5_1) ∧ Aside0 (w'.heap[gb116]? = some (.cells #[.int .i64 ((rd_T36 l0 x6_1).f0), .int .i64 ((rd_T36 l0 x6_1).f1), .string ((rd_T36 l0 x6_1).f2)] 36 (0, 0))) ∧ Aside0 (IsS69 w w' g114 t120) ∧ Aside0 (Below w.heap.size w w'))
   case atStart => exact ⟨((-1)), (0), (by first | rfl | (simp; done) | (simp [*]; done)), (by first | rfl | (simp; done) | (simp [*]; done)), H', ⟨Nat.le_refl _⟩, ⟨by (with_reducible repeat (first | apply Kd.R_alloc | apply Kd.R_drewN | apply Kd.R_drew)); exact HO_4.out⟩, ⟨by (with_reducible repeat (first | apply Kd.R_alloc | apply Kd.R_drewN | apply Kd.R_drew)); exact HO_5.out⟩, ⟨by (with_reducible repeat (first | refine blk_drewN ?_ _ | refine blk_drew ?_ | refine blk_alloc ?_ _)); exact BK116.out⟩, ⟨by repeat (first | (with_reducible first | exact HI114.out | apply IsS69.alloc | apply IsS69.drewN | apply IsS69.drew | refine IsS69.far ?_ (by (repeat (first | exact (Opq.NP.blk BK116.out (by decide)) | (with_reducible apply Opq.NP.setCell) | (with_reducible apply Opq.NP.drewN) | (with_reducible apply Opq.NP.drew) | (with_reducible apply Opq.NP.alloc))); done) _) | exact HI114.out)⟩, ⟨by repeat (first | (with_reducible first | exact HB.out | apply below_alloc | apply pw_below_drewN | apply below_drew1 | refine below_set ?_ (IsS69.ge HI114.out) | refine below_set ?_ GE116.out) | exact HB.out)⟩⟩
   clear H'
   try clear c1
   try clear p2
   try clear c3
   try clear c4
   try clear p4
   try clear q4
   try clear hx4
   try clear hf4
   try clear c5
   try clear c6
   try clear p6
   try clear c12
   try clear c15
   try clear c32
   try clear c34
   try clear c36
   try clear c36b0
   try clear c36b1
   try clear c38
   try clear c38b0
   try clear c39
   try clear c39b0
   try clear c40
   try clear c40b0
   try clear p41
   try clear q41
   try clear hx41
   try clear hf41
   try clear c42
   try clear c48
   try clear c49
   try clear c50
   try clear c64
   try clear c64b0
   try clear c64b1
   try clear p64
   try clear c66
   try clear hcz35_0
   try clear hcz35_1
   try clear hcz35_2
   try clear hcz43_0
   try clear hcz43_1
   try clear hcz43_2
   try clear hcz45_0
   try clear hcz45_1
   try clear hcz45_2
   try clear hcz51_0
   try clear hcz51_1
   try clear hcz51_2
   try clear hcz67_0
   try clear hcz67_1
   try clear hcz67_2
   try clear hfz35_0
   try clear hfz35_1
   try clear hfz35_2
   try clear hfz43_0
   try clear hfz43_1
   try clear hfz43_2
   try clear hfz45_0
   try clear hfz45_1
   try clear hfz45_2
   try clear hfz51_0
   try clear hfz51_1
   try clear hfz51_2
   try clear hfz67_0
   try clear hfz67_1
   try clear hfz67_2
   try clear hx41_0
   try clear p41
   try clear q41
   obtain ⟨x8_4, x12_4, rfl, rfl, HA, HK4, HO_4, HO_5, BK116, HI114, HB⟩ := hrel
   cases gk with
   | zero => exact absurd HA.out (by simp [TP.l2])
   | succ k4 =>
   have H := HA.out
   clear HA
   simp only [TP.l2] at H
   by_cases c69 : x12_4 < (x4_1.length : Int)
   rotate_left
   ·rw [if_neg c69] at H
    have c69b0 : decide (x12_4 < (x4_1.length : Int)) = false := decide_eq_false c69
    clear c69
    replace H := Option.bind_eq_some_iff.mp H
    obtain ⟨⟨t144, t145, t146, t147⟩, A910, H⟩ := H
    replace H : (if (t146 != (decide (x8_4 ≥ 0))) = true then (TP.j5 k4 l0 x4_1 x5_1 x6_1 x8_4 true t147) else (if t146 = true then (if 0 ≤ x8_4 then (if x8_4 < (x4_1.length : Int) then (if t144.toList = (rdOf ByteArray.empty x4_1 x8_4).toList then (if x8_4 < (x5_1.length : Int) then (if t145 = (rd x5_1 x8_4) then (TP.j5 k4 l0 x4_1 x5_1 x6_1 x8_4 false t147) else (TP.j5 k4 l0 x4_1 x5_1 x6_1 x8_4 true t147)) else (none)) else (TP.j5 k4 l0 x4_1 x5_1 x6_1 x8_4 true t147)) else (none)) else (none)) else (if t144.toList = ([] : List UInt8) then (TP.j5 k4 l0 x4_1 x5_1 x6_1 x8_4 (t145 != 0) t147) else (TP.j5 k4 l0 x4_1 x5_1 x6_1 x8_4 true t147)))) = some r := H
    have A91 := Aside0.mk A910
    clear A910
    have HC92 := Aside0.mk H
    clear H
    have hnb93 := NB116_114.out
    have hnc93 := NB114_116.out
    have hcz94_0 : wr.cell? ⟨gb116, 0, none⟩ = some (.int .i64 ((rd_T36 l0 x6_1).f0)) := (blk_cell BK116.out 0).trans rfl
    have hcz94_1 : wr.cell? ⟨gb116, 1, none⟩ = some (.int .i64 ((rd_T36 l0 x6_1).f1)) := (blk_cell BK116.out 1).trans rfl
    have hcz94_2 : wr.cell? ⟨gb116, 2, none⟩ = some (.string ((rd_T36 l0 x6_1).f2)) := (blk_cell BK116.out 2).trans rfl
    have hfz94_0 := blk_frozen BK116.out 0
    have hfz94_1 := blk_frozen BK116.out 1
    have hfz94_2 := blk_frozen BK116.out 2
    go_upto_region 27 with (first | ((with_reducible refine gate_callee (f := 13) rfl ?_); refine goesL_ (some 132) rfl rfl Try.func13 (by kernel_rfl) rfl #[.pointer (some ⟨g114, 0, none⟩), .int .i64 ((rd_T36 l0 x6_1).f1)] rfl (by (try simp only [List.map_toArray, List.map_cons, List.map_nil]); first | done | rfl | (simp only [List.length_drop, List.length_take]; rfl)) ?_; (with_reducible refine (timer_Timers_Due.calls g114 t120 ((rd_T36 l0 x6_1).f1) t144 t145 t146 t147 w _ ?side1 ?side2 A91.out).mono ?_); (case side1 => repeat (first | (with_reducible first | exact HI114.out | apply IsS69.alloc | apply IsS69.drewN | apply IsS69.drew | refine IsS69.far ?_ (by (repeat (first | exact (Opq.NP.blk BK116.out (by decide)) | (with_reducible apply Opq.NP.setCell) | (with_reducible apply Opq.NP.drewN) | (with_reducible apply Opq.NP.drew) | (with_reducible apply Opq.NP.alloc))); done) _) | exact HI114.out)); (case side2 => repeat (first | (with_reducible first | exact HB.out | apply below_alloc | apply pw_below_drewN | apply below_drew1 | refine below_set ?_ (IsS69.ge HI114.out) | refine below_set ?_ GE116.out) | exact HB.out)); rintro e w95 ⟨rfl, hi, hb, hk⟩; refine ⟨_, rfl, ?_⟩; have n0_ := Aside0.mk (Opq.R_keep (by (with_reducible repeat (first|apply Kd.R_alloc|apply Kd.R_drewN|apply Kd.R_drew)); exact HO_4.out) hk (by decide)); have n1_ := Aside0.mk (Opq.R_keep (by (with_reducible repeat (first|apply Kd.R_alloc|apply Kd.R_drewN|apply Kd.R_drew)); exact HO_5.out) hk (by decide)); have n2_ := Aside0.mk (Opq.KeepO.blk2 hk (g := gb116) (o := .cells #[.int .i64 ((rd_T36 l0 x6_1).f0), .int .i64 ((rd_T36 l0 x6_1).f1), .string ((rd_T36 l0 x6_1).f2)] 36 (0, 0)) (by (with_reducible repeat (first | refine blk_drewN ?_ _ | refine blk_drew ?_ | refine blk_alloc ?_ _)); exact BK116.out) (by rfl)); have n3_ := Aside0.mk (hb); have n4_ := Aside0.mk (hi); clear HO_4; clear HO_5; clear BK116; clear HB; clear HI114; have HO_4 := n0_; have HO_5 := n1_; have BK116 := n2_; have HB := n3_; have HI114 := n4_; clear n0_ n1_ n2_ n3_ n4_; (try clear hb); (try clear hb2); (try clear hk); (try clear hi)))
    (try simp only [Act.put, q1_, q2_, q3_])
    go_cut [170] (fun v170 wc => ∃ (kq : Nat) (x170_91 : Bool), v170 = .bool x170_91 ∧ Aside0 (TP.j5 kq l0 x4_1 x5_1 x6_1 x8_4 x170_91 t147 = some r) ∧ Aside0 (kq ≤ k4) ∧ Aside0 (Kd.R Kd.string 9 wc w.heap.size (fun _ => True) (.slice Ao21 x4_1.length co21) x4_1) ∧ Aside0 (Kd.R (Kd.int .i64) 3 wc w.heap.size (fun _ => True) u5 x5_1) ∧ Aside0 (wc.heap[gb116]? = some (.cells #[.int .i64 ((rd_T36 l0 x6_1).f0), .int .i64 ((rd_T36 l0 x6_1).f1), .string ((rd_T36 l0 x6_1).f2)] 36 (0, 0))) ∧ Aside0 (IsS69 w wc g114 t147) ∧ Aside0 (Below w.heap.size w wc))
    case first => as_aux_lemma =>
     have H := HC92.out
     clear HC92
     by_cases c96 : (t146 != (decide (x8_4 ≥ 0))) = true
     ·rw [if_pos c96] at H
      have c96b0 : (t146 != (decide (x8_4 ≥ 0))) = true := c96
      (try (have c96b1 : decide (t146 = (decide (x8_4 ≥ 0))) = false := by simpa using c96))
      (try (have c96b2 : (t146 == (decide (x8_4 ≥ 0))) = false := by simpa using c96))
      (try (have c96b3 : ¬ (t146 = (decide (x8_4 ≥ 0))) := by simpa using c96))
      clear c96
      (first | rw [c96b0] | (simp only [i64_w, i32_w]; rw [c96b0]) | skip)
      have H' := Aside0.mk H
      clear H
      go_wp2
      go_meet
      case rel => exact ⟨_, (true), (by first | rfl | (simp; done) | (simp [*]; done)), H', ⟨by have := HK1.out; have := HK2.out; have := HJ19.out; have := HK4.out; first | omega | exact Nat.le_refl _⟩, ⟨by (with_reducible repeat (first | apply Kd.R_alloc | apply Kd.R_drewN | apply Kd.R_drew)); exact HO_4.out⟩, ⟨by (with_reducible repeat (first | apply Kd.R_alloc | apply Kd.R_drewN | apply Kd.R_drew)); exact HO_5.out⟩, ⟨by (with_reducible repeat (first | refine blk_drewN ?_ _ | refine blk_drew ?_ | refine blk_alloc ?_ _)); exact BK116.out⟩, ⟨by repeat (first | (with_reducible first | exact HI114.out | apply IsS69.alloc | apply IsS69.drewN | apply IsS69.drew | refine IsS69.far ?_ (by (repeat (first | exact (Opq.NP.blk BK116.out (by decide)) | (with_reducible apply Opq.NP.setCell) | (with_reducible apply Opq.NP.drewN) | (with_reducible apply Opq.NP.drew) | (with_reducible apply Opq.NP.alloc))); done) _) | exact HI114.out)⟩, ⟨by repeat (first | (with_reducible first | exact HB.out | apply below_alloc | apply pw_below_drewN | apply below_drew1 | refine below_set ?_ (IsS69.ge HI114.out) | refine below_set ?_ GE116.out) | exact HB.out)⟩⟩
     rw [if_neg c96] at H
     have c96b0 : (t146 != (decide (x8_4 ≥ 0))) = false := by simpa using c96
     (try (have c96b1 : decide (t146 = (decide (x8_4 ≥ 0))) = true := by simpa using c96))
     (try (have c96b2 : (t146 == (decide (x8_4 ≥ 0))) = true := by simpa using c96))
     clear c96
     (first | rw [c96b0] | (simp only [i64_w, i32_w]; rw [c96b0]) | skip)
     by_cases c97 : t146 = true
     rotate_left
     ·replace c97 := Bool.eq_false_iff.mpr c97
      subst c97
      have H1 : (if t144.toList = ([] : List UInt8) then (TP.j5 k4 l0 x4_1 x5_1 x6_1 x8_4 (t145 != 0) t147) else (TP.j5 k4 l0 x4_1 x5_1 x6_1 x8_4 true t147)) = some r := by rw [if_neg (show ¬ (false = true) by decide)] at H; exact H
      clear H
      have H := H1
      clear H1
      by_cases c105 : t144.toList = ([] : List UInt8)
      rotate_left
      ·rw [if_neg c105] at H
       have c105b0 : (t144.toList == ([] : List UInt8)) = false := beq_eq_false_iff_ne.mpr c105
       have c105b1 : (t144.toList != ([] : List UInt8)) = true := bne_iff_ne.mpr c105
       have H' := Aside0.mk H
       clear H
       go_wp2
       go_meet
       case rel => exact ⟨_, (true), (by first | rfl | (simp; done) | (simp [*]; done)), H', ⟨by have := HK1.out; have := HK2.out; have := HJ19.out; have := HK4.out; first | omega | exact Nat.le_refl _⟩, ⟨by (with_reducible repeat (first | apply Kd.R_alloc | apply Kd.R_drewN | apply Kd.R_drew)); exact HO_4.out⟩, ⟨by (with_reducible repeat (first | apply Kd.R_alloc | apply Kd.R_drewN | apply Kd.R_drew)); exact HO_5.out⟩, ⟨by (with_reducible repeat (first | refine blk_drewN ?_ _ | refine blk_drew ?_ | refine blk_alloc ?_ _)); exact BK116.out⟩, ⟨by repeat (first | (with_reducible first | exact HI114.out | apply IsS69.alloc | apply IsS69.drewN | apply IsS69.drew | refine IsS69.far ?_ (by (repeat (first | exact (Opq.NP.blk BK116.out (by decide)) | (with_reducible apply Opq.NP.setCell) | (with_reducible apply Opq.NP.drewN) | (with_reducible apply Opq.NP.drew) | (with_reducible apply Opq.NP.alloc))); done) _) | exact HI114.out)⟩, ⟨by repeat (first | (with_reducible first | exact HB.out | apply below_alloc | apply pw_below_drewN | apply below_drew1 | refine below_set ?_ (IsS69.ge HI114.out) | refine below_set ?_ GE116.out) | exact HB.out)⟩⟩
      rw [if_pos c105] at H
      have c105b0 : (t144.toList == ([] : List UInt8)) = true := beq_iff_eq.mpr c105
      have c105b1 : (t144.toList != ([] : List UInt8)) = false := bne_eq_false_iff_eq.mpr c105
      clear c105
      have H' := Aside0.mk H
      clear H
      go_wp2
      go_meet
      case rel => exact ⟨_, ((t145 != 0)), (by first | rfl | (simp; done) | (simp [*]; done)), H', ⟨by have := HK1.out; have := HK2.out; have := HJ19.out; have := HK4.out; first | omega | exact Nat.le_refl _⟩, ⟨by (with_reducible repeat (first | apply Kd.R_alloc | apply Kd.R_drewN | apply Kd.R_drew)); exact HO_4.out⟩, ⟨by (with_reducible repeat (first | apply Kd.R_alloc | apply Kd.R_drewN | apply Kd.R_drew)); exact HO_5.out⟩, ⟨by (with_reducible repeat (first | refine blk_drewN ?_ _ | refine blk_drew ?_ | refine blk_alloc ?_ _)); exact BK116.out⟩, ⟨by repeat (first | (with_reducible first | exact HI114.out | apply IsS69.alloc | apply IsS69.drewN | apply IsS69.drew | refine IsS69.far ?_ (by (repeat (first | exact (Opq.NP.blk BK116.out (by decide)) | (with_reducible apply Opq.NP.setCell) | (with_reducible apply Opq.NP.drewN) | (with_reducible apply Opq.NP.drew) | (with_reducible apply Opq.NP.alloc))); done) _) | exact HI114.out)⟩, ⟨by repeat (first | (with_reducible first | exact HB.out | apply below_alloc | apply pw_below_drewN | apply below_drew1 | refine below_set ?_ (IsS69.ge HI114.out) | refine below_set ?_ GE116.out) | exact HB.out)⟩⟩
     subst c97
     have H1 : (if 0 ≤ x8_4 then (if x8_4 < (x4_1.length : Int) then (if t144.toList = (rdOf ByteArray.empty x4_1 x8_4).toList then (if x8_4 < (x5_1.length : Int) then (if t145 = (rd x5_1 x8_4) then (TP.j5 k4 l0 x4_1 x5_1 x6_1 x8_4 false t147) else (TP.j5 k4 l0 x4_1 x5_1 x6_1 x8_4 true t147)) else (none)) else (TP.j5 k4 l0 x4_1 x5_1 x6_1 x8_4 true t147)) else (none)) else (none)) = some r := by rw [if_pos rfl] at H; exact H
     clear H
     have H := H1
     clear H1
     by_cases c98 : 0 ≤ x8_4
     rotate_left
     ·rw [if_neg c98] at H
      exact absurd H (by simp)
     rw [if_pos c98] at H
     have c98b0 : decide (0 ≤ x8_4) = true := decide_eq_true c98
     clear c98
     by_cases c99 : x8_4 < (x4_1.length : Int)
     rotate_left
     ·rw [if_neg c99] at H
      exact absurd H (by simp)
     rw [if_pos c99] at H
     have c99b0 : decide (x8_4 < (x4_1.length : Int)) = true := decide_eq_true c99
     clear c99
     by_cases c100 : t144.toList = (rdOf ByteArray.empty x4_1 x8_4).toList
     rotate_left
     ·rw [if_neg c100] at H
      have c100b0 : (t144.toList == (rdOf ByteArray.empty x4_1 x8_4).toList) = false := beq_eq_false_iff_ne.mpr c100
      have c100b1 : (t144.toList != (rdOf ByteArray.empty x4_1 x8_4).toList) = true := bne_iff_ne.mpr c100
      have H' := Aside0.mk H
      clear H
      have p148 : 0 ≤ (x8_4 : Int) := of_decide_eq_true (by first | (with_reducible assumption) | assumption)
      have q148 : x8_4 < (x4_1.length : Int) := of_decide_eq_true (by first | (with_reducible assumption) | assumption)
      obtain ⟨ad148, e148, hx148_0⟩ := Kd.at_string (Kd.R_reads' HO_4.out).2.2 x8_4 p148 q148
      cases e148
      replace p148 := eq_true p148
      replace q148 := eq_true q148
      go_wp2
      go_meet
      case rel => exact ⟨_, (true), (by first | rfl | (simp; done) | (simp [*]; done)), H', ⟨by have := HK1.out; have := HK2.out; have := HJ19.out; have := HK4.out; first | omega | exact Nat.le_refl _⟩, ⟨by (with_reducible repeat (first | apply Kd.R_alloc | apply Kd.R_drewN | apply Kd.R_drew)); exact HO_4.out⟩, ⟨by (with_reducible repeat (first | apply Kd.R_alloc | apply Kd.R_drewN | apply Kd.R_drew)); exact HO_5.out⟩, ⟨by (with_reducible repeat (first | refine blk_drewN ?_ _ | refine blk_drew ?_ | refine blk_alloc ?_ _)); exact BK116.out⟩, ⟨by repeat (first | (with_reducible first | exact HI114.out | apply IsS69.alloc | apply IsS69.drewN | apply IsS69.drew | refine IsS69.far ?_ (by (repeat (first | exact (Opq.NP.blk BK116.out (by decide)) | (with_reducible apply Opq.NP.setCell) | (with_reducible apply Opq.NP.drewN) | (with_reducible apply Opq.NP.drew) | (with_reducible apply Opq.NP.alloc))); done) _) | exact HI114.out)⟩, ⟨by repeat (first | (with_reducible first | exact HB.out | apply below_alloc | apply pw_below_drewN | apply below_drew1 | refine below_set ?_ (IsS69.ge HI114.out) | refine below_set ?_ GE116.out) | exact HB.out)⟩⟩
     rw [if_pos c100] at H
     have c100b0 : (t144.toList == (rdOf ByteArray.empty x4_1 x8_4).toList) = true := beq_iff_eq.mpr c100
     have c100b1 : (t144.toList != (rdOf ByteArray.empty x4_1 x8_4).toList) = false := bne_eq_false_iff_eq.mpr c100
     clear c100
     by_cases c101 : x8_4 < (x5_1.length : Int)
     rotate_left
     ·rw [if_neg c101] at H
      exact absurd H (by simp)
     rw [if_pos c101] at H
     have c101b0 : decide (x8_4 < (x5_1.length : Int)) = true := decide_eq_true c101
     clear c101
     by_cases c102 : t145 = (rd x5_1 x8_4)
     rotate_left
     ·rw [if_neg c102] at H
      have c102b0 : (t145 == (rd x5_1 x8_4)) = false := beq_eq_false_iff_ne.mpr c102
      have c102b1 : (t145 != (rd x5_1 x8_4)) = true := bne_iff_ne.mpr c102
      have H' := Aside0.mk H
      clear H
      have p148 : 0 ≤ (x8_4 : Int) := of_decide_eq_true (by first | (with_reducible assumption) | assumption)
      have q148 : x8_4 < (x4_1.length : Int) := of_decide_eq_true (by first | (with_reducible assumption) | assumption)
      obtain ⟨ad148, e148, hx148_0⟩ := Kd.at_string (Kd.R_reads' HO_4.out).2.2 x8_4 p148 q148
      cases e148
      replace p148 := eq_true p148
      replace q148 := eq_true q148
      obtain ⟨Ao104, co104, eo104⟩ := Kd.R_slice HO_5.out
      subst eo104
      have p149 : 0 ≤ (x8_4 : Int) := of_decide_eq_true (by first | (with_reducible assumption) | assumption)
      have q149 : x8_4 < (x5_1.length : Int) := of_decide_eq_true (by first | (with_reducible assumption) | assumption)
      obtain ⟨ad149, e149, hx149_0⟩ := Kd.at_int (Kd.R_reads' HO_5.out).2.2 x8_4 p149 q149
      cases e149
      replace p149 := eq_true p149
      replace q149 := eq_true q149
      go_wp2
      go_meet
      case rel => exact ⟨_, (true), (by first | rfl | (simp; done) | (simp [*]; done)), H', ⟨by have := HK1.out; have := HK2.out; have := HJ19.out; have := HK4.out; first | omega | exact Nat.le_refl _⟩, ⟨by (with_reducible repeat (first | apply Kd.R_alloc | apply Kd.R_drewN | apply Kd.R_drew)); exact HO_4.out⟩, ⟨by (with_reducible repeat (first | apply Kd.R_alloc | apply Kd.R_drewN | apply Kd.R_drew)); exact HO_5.out⟩, ⟨by (with_reducible repeat (first | refine blk_drewN ?_ _ | refine blk_drew ?_ | refine blk_alloc ?_ _)); exact BK116.out⟩, ⟨by repeat (first | (with_reducible first | exact HI114.out | apply IsS69.alloc | apply IsS69.drewN | apply IsS69.drew | refine IsS69.far ?_ (by (repeat (first | exact (Opq.NP.blk BK116.out (by decide)) | (with_reducible apply Opq.NP.setCell) | (with_reducible apply Opq.NP.drewN) | (with_reducible apply Opq.NP.drew) | (with_reducible apply Opq.NP.alloc))); done) _) | exact HI114.out)⟩, ⟨by repeat (first | (with_reducible first | exact HB.out | apply below_alloc | apply pw_below_drewN | apply below_drew1 | refine below_set ?_ (IsS69.ge HI114.out) | refine below_set ?_ GE116.out) | exact HB.out)⟩⟩
     rw [if_pos c102] at H
     have c102b0 : (t145 == (rd x5_1 x8_4)) = true := beq_iff_eq.mpr c102
     have c102b1 : (t145 != (rd x5_1 x8_4)) = false := bne_eq_false_iff_eq.mpr c102
     clear c102
     have H' := Aside0.mk H
     clear H
     have p148 : 0 ≤ (x8_4 : Int) := of_decide_eq_true (by first | (with_reducible assumption) | assumption)
     have q148 : x8_4 < (x4_1.length : Int) := of_decide_eq_true (by first | (with_reducible assumption) | assumption)
     obtain ⟨ad148, e148, hx148_0⟩ := Kd.at_string (Kd.R_reads' HO_4.out).2.2 x8_4 p148 q148
     cases e148
     replace p148 := eq_true p148
     replace q148 := eq_true q148
     obtain ⟨Ao103, co103, eo103⟩ := Kd.R_slice HO_5.out
     subst eo103
     have p149 : 0 ≤ (x8_4 : Int) := of_decide_eq_true (by first | (with_reducible assumption) | assumption)
     have q149 : x8_4 < (x5_1.length : Int) := of_decide_eq_true (by first | (with_reducible assumption) | assumption)
     obtain ⟨ad149, e149, hx149_0⟩ := Kd.at_int (Kd.R_reads' HO_5.out).2.2 x8_4 p149 q149
     cases e149
     replace p149 := eq_true p149
     replace q149 := eq_true q149
     go_wp2
     go_meet
     case rel => exact ⟨_, (false), (by first | rfl | (simp; done) | (simp [*]; done)), H', ⟨by have := HK1.out; have := HK2.out; have := HJ19.out; have := HK4.out; first | omega | exact Nat.le_refl _⟩, ⟨by (with_reducible repeat (first | apply Kd.R_alloc | apply Kd.R_drewN | apply Kd.R_drew)); exact HO_4.out⟩, ⟨by (with_reducible repeat (first | apply Kd.R_alloc | apply Kd.R_drewN | apply Kd.R_drew)); exact HO_5.out⟩, ⟨by (with_reducible repeat (first | refine blk_drewN ?_ _ | refine blk_drew ?_ | refine blk_alloc ?_ _)); exact BK116.out⟩, ⟨by repeat (first | (with_reducible first | exact HI114.out | apply IsS69.alloc | apply IsS69.drewN | apply IsS69.drew | refine IsS69.far ?_ (by (repeat (first | exact (Opq.NP.blk BK116.out (by decide)) | (with_reducible apply Opq.NP.setCell) | (with_reducible apply Opq.NP.drewN) | (with_reducible apply Opq.NP.drew) | (with_reducible apply Opq.NP.alloc))); done) _) | exact HI114.out)⟩, ⟨by repeat (first | (with_reducible first | exact HB.out | apply below_alloc | apply pw_below_drewN | apply below_drew1 | refine below_set ?_ (IsS69.ge HI114.out) | refine below_set ?_ GE116.out) | exact HB.out)⟩⟩
    case rest => as_aux_lemma =>
     clear HC92
     try clear c1
     try clear p1
     try clear q1
     try clear hx1
     try clear p2
     try clear c6
     try clear p6
     try clear c7
     try clear c9
     try clear c10
     try clear c13
     try clear p13
     try clear q13
     try clear hx13
     try clear p14
     try clear q14
     try clear hx14
     try clear p64
     try clear c69
     try clear c69b0
     try clear c71
     try clear c72
     try clear c73
     try clear c73b0
     try clear c77
     try clear c78
     try clear c90
     try clear c93
     try clear c96
     try clear c96b0
     try clear c96b1
     try clear c96b2
     try clear c97
     try clear c98
     try clear c98b0
     try clear c99
     try clear c99b0
     try clear c100
     try clear c100b0
     try clear c100b1
     try clear c101
     try clear c101b0
     try clear c102
     try clear c102b0
     try clear c102b1
     try clear c105
     try clear c105b0
     try clear c105b1
     try clear hcz94_0
     try clear hcz94_1
     try clear hcz94_2
     try clear hfz94_0
     try clear hfz94_1
     try clear hfz94_2
     try clear hx137_0
     try clear hx138_0
     try clear hx139_0
     try clear hx140_0
     try clear hx141_0
     try clear hx148_0
     try clear hx149_0
     try clear p1
     try clear p13
     try clear p137
     try clear p138
     try clear p139
     try clear p14
     try clear p140
     try clear p141
     try clear p148
     try clear p149
     try clear p2
     try clear q1
     try clear q13
     try clear q137
     try clear q138
     try clear q139
     try clear q14
     try clear q140
     try clear q141
     try clear q148
     try clear q149
     obtain ⟨kq, x170_91, rfl, HA, HJ91, HO_4, HO_5, BK116, HI114, HB⟩ := hcut
     cases kq with
     | zero => exact absurd HA.out (by simp [TP.j5])
     | succ kj91 =>
     have H := HA.out
     clear HA
     simp only [TP.j5] at H
     by_cases c106 : x170_91 = true
     ·subst c106
      have H1 : (some false) = some r := by rw [if_pos rfl] at H; exact H
      clear H
      have H := H1
      clear H1
      obtain rfl := Option.some.inj H
      go_wp2
      go_ret
      exact ⟨by first | rfl | (simp [errW_none, errW_some] <;> rfl) | (simp [*, errW_none, errW_some] <;> rfl), by repeat (first | (with_reducible first | exact HB.out | apply below_alloc | apply pw_below_drewN | apply below_drew1 | refine below_set ?_ (IsS69.ge HI114.out) | refine below_set ?_ GE116.out) | exact HB.out)⟩
     replace c106 := Bool.eq_false_iff.mpr c106
     subst c106
     have H1 : (TP.j6 kj91 l0 x4_1 x5_1 x6_1 x8_4 t147) = some r := by rw [if_neg (show ¬ (false = true) by decide)] at H; exact H
     clear H
     have H := H1
     clear H1
     have H' := Aside0.mk H
     clear H
     go_wp2
     go_meet
     case rel => exact ⟨_, (x4_1), (x5_1), (x8_4), (t147), (by first | rfl | (simp; done) | (simp [*]; done)), H', ⟨by have := HK1.out; have := HK2.out; have := HJ19.out; have := HK4.out; have := HJ91.out; first | omega | exact Nat.le_refl _⟩, ⟨by (with_reducible repeat (first | apply Kd.R_alloc | apply Kd.R_drewN | apply Kd.R_drew)); exact HO_4.out⟩, ⟨by (with_reducible repeat (first | apply Kd.R_alloc | apply Kd.R_drewN | apply Kd.R_drew)); exact HO_5.out⟩, ⟨by (with_reducible repeat (first | refine blk_drewN ?_ _ | refine blk_drew ?_ | refine blk_alloc ?_ _)); exact BK116.out⟩, ⟨by repeat (first | (with_reducible first | exact HI114.out | apply IsS69.alloc | apply IsS69.drewN | apply IsS69.drew | refine IsS69.far ?_ (by (repeat (first | exact (Opq.NP.blk BK116.out (by decide)) | (with_reducible apply Opq.NP.setCell) | (with_reducible apply Opq.NP.drewN) | (with_reducible apply Opq.NP.drew) | (with_reducible apply Opq.NP.alloc))); done) _) | exact HI114.out)⟩, ⟨by repeat (first | (with_reducible first | exact HB.out | apply below_alloc | apply pw_below_drewN | apply below_drew1 | refine below_set ?_ (IsS69.ge HI114.out) | refine below_set ?_ GE116.out) | exact HB.out)⟩⟩
   rw [if_pos c69] at H
   have c69b0 : decide (x12_4 < (x4_1.length : Int)) = true := decide_eq_true c69
   clear c69
   have HC70 := Aside0.mk H
   clear H
   go_upto_region 24 with (fail)
   go_cut [126] (fun v126 wc => ∃ (kq : Nat) (x126_69 : Bool), v126 = .bool x126_69 ∧ Aside0 (TP.j4 kq l0 x4_1 x5_1 x6_1 x8_4 x12_4 x126_69 t120 ((rd_T36 l0 x6_1).f0) ((rd_T36 l0 x6_1).f1) ((rd_T36 l0 x6_1).f2) = some r) ∧ Aside0 (kq ≤ k4) ∧ Aside0 (Kd.R Kd.string 9 wc w.heap.size (fun _ => True) (.slice Ao21 x4_1.length co21) x4_1) ∧ Aside0 (Kd.R (Kd.int .i64) 3 wc w.heap.size (fun _ => True) u5 x5_1) ∧ Aside0 (wc.heap[gb116]? = some (.cells #[.int .i64 ((rd_T36 l0 x6_1).f0), .int .i64 ((rd_T36 l0 x6_1).f1), .string ((rd_T36 l0 x6_1).f2)] 36 (0, 0))) ∧ Aside0 (IsS69 w wc g114 t120) ∧ Aside0 (Below w.heap.size w wc))
   case first => as_aux_lemma =>
    have H := HC70.out
    clear HC70
    by_cases c71 : 0 ≤ x12_4
    rotate_left
    ·rw [if_neg c71] at H
     exact absurd H (by simp)
    rw [if_pos c71] at H
    have c71b0 : decide (0 ≤ x12_4) = true := decide_eq_true c71
    clear c71
    (first | rw [c71b0] | (simp only [i64_w, i32_w]; rw [c71b0]) | skip)
    by_cases c72 : x12_4 < (x5_1.length : Int)
    rotate_left
    ·rw [if_neg c72] at H
     exact absurd H (by simp)
    rw [if_pos c72] at H
    have c72b0 : decide (x12_4 < (x5_1.length : Int)) = true := decide_eq_true c72
    clear c72
    by_cases c73 : (rd x5_1 x12_4) ≤ ((rd_T36 l0 x6_1).f1)
    rotate_left
    ·rw [if_neg c73] at H
     have c73b0 : decide ((rd x5_1 x12_4) ≤ ((rd_T36 l0 x6_1).f1)) = false := decide_eq_false c73
     clear c73
     have H' := Aside0.mk H
     clear H
     try go_wp2
     obtain ⟨Ao89, co89, eo89⟩ := Kd.R_slice HO_5.out
     (first | subst eo89 | (injection eo89 with f1_ f2_ f3_; have f4_ := f1_.symm; have f5_ := f3_.symm; clear f1_ f2_ f3_; subst f4_; subst f5_))
     have p137 : 0 ≤ (x12_4 : Int) := of_decide_eq_true (by first | (with_reducible assumption) | assumption)
     have q137 : x12_4 < (x5_1.length : Int) := of_decide_eq_true (by first | (with_reducible assumption) | assumption)
     obtain ⟨ad137, e137, hx137_0⟩ := Kd.at_int (Kd.R_reads' HO_5.out).2.2 x12_4 p137 q137
     cases e137
     replace p137 := eq_true p137
     replace q137 := eq_true q137
     have hcz_1 : wr.cell? ⟨gb116, 1, none⟩ = some (.int .i64 ((rd_T36 l0 x6_1).f1)) := (blk_cell BK116.out 1).trans rfl
     go_quiet (fail)
     try go_wp2
     go_meet
     case rel => exact ⟨_, (false), (by first | rfl | (simp; done) | (simp [*]; done)), H', ⟨by have := HK1.out; have := HK2.out; have := HJ19.out; have := HK4.out; first | omega | exact Nat.le_refl _⟩, ⟨by (with_reducible repeat (first | apply Kd.R_alloc | apply Kd.R_drewN | apply Kd.R_drew)); exact HO_4.out⟩, ⟨by (with_reducible repeat (first | apply Kd.R_alloc | apply Kd.R_drewN | apply Kd.R_drew)); exact HO_5.out⟩, ⟨by (with_reducible repeat (first | refine blk_drewN ?_ _ | refine blk_drew ?_ | refine blk_alloc ?_ _)); exact BK116.out⟩, ⟨by repeat (first | (with_reducible first | exact HI114.out | apply IsS69.alloc | apply IsS69.drewN | apply IsS69.drew | refine IsS69.far ?_ (by (repeat (first | exact (Opq.NP.blk BK116.out (by decide)) | (with_reducible apply Opq.NP.setCell) | (with_reducible apply Opq.NP.drewN) | (with_reducible apply Opq.NP.drew) | (with_reducible apply Opq.NP.alloc))); done) _) | exact HI114.out)⟩, ⟨by repeat (first | (with_reducible first | exact HB.out | apply below_alloc | apply pw_below_drewN | apply below_drew1 | refine below_set ?_ (IsS69.ge HI114.out) | refine below_set ?_ GE116.out) | exact HB.out)⟩⟩
    rw [if_pos c73] at H
    have c73b0 : decide ((rd x5_1 x12_4) ≤ ((rd_T36 l0 x6_1).f1)) = true := decide_eq_true c73
    clear c73
    by_cases c74 : x8_4 < 0
    ·rw [if_pos c74] at H
     have c74b0 : decide (x8_4 < 0) = true := decide_eq_true c74
     clear c74
     have H' := Aside0.mk H
     clear H
     try go_wp2
     obtain ⟨Ao76, co76, eo76⟩ := Kd.R_slice HO_5.out
     (first | subst eo76 | (injection eo76 with f1_ f2_ f3_; have f4_ := f1_.symm; have f5_ := f3_.symm; clear f1_ f2_ f3_; subst f4_; subst f5_))
     have p137 : 0 ≤ (x12_4 : Int) := of_decide_eq_true (by first | (with_reducible assumption) | assumption)
     have q137 : x12_4 < (x5_1.length : Int) := of_decide_eq_true (by first | (with_reducible assumption) | assumption)
     obtain ⟨ad137, e137, hx137_0⟩ := Kd.at_int (Kd.R_reads' HO_5.out).2.2 x12_4 p137 q137
     cases e137
     replace p137 := eq_true p137
     replace q137 := eq_true q137
     have hcz_1 : wr.cell? ⟨gb116, 1, none⟩ = some (.int .i64 ((rd_T36 l0 x6_1).f1)) := (blk_cell BK116.out 1).trans rfl
     go_quiet (fail)
     try go_wp2
     go_meet
     case rel => exact ⟨_, (true), (by first | rfl | (simp; done) | (simp [*]; done)), H', ⟨by have := HK1.out; have := HK2.out; have := HJ19.out; have := HK4.out; first | omega | exact Nat.le_refl _⟩, ⟨by (with_reducible repeat (first | apply Kd.R_alloc | apply Kd.R_drewN | apply Kd.R_drew)); exact HO_4.out⟩, ⟨by (with_reducible repeat (first | apply Kd.R_alloc | apply Kd.R_drewN | apply Kd.R_drew)); exact HO_5.out⟩, ⟨by (with_reducible repeat (first | refine blk_drewN ?_ _ | refine blk_drew ?_ | refine blk_alloc ?_ _)); exact BK116.out⟩, ⟨by repeat (first | (with_reducible first | exact HI114.out | apply IsS69.alloc | apply IsS69.drewN | apply IsS69.drew | refine IsS69.far ?_ (by (repeat (first | exact (Opq.NP.blk BK116.out (by decide)) | (with_reducible apply Opq.NP.setCell) | (with_reducible apply Opq.NP.drewN) | (with_reducible apply Opq.NP.drew) | (with_reducible apply Opq.NP.alloc))); done) _) | exact HI114.out)⟩, ⟨by repeat (first | (with_reducible first | exact HB.out | apply below_alloc | apply pw_below_drewN | apply below_drew1 | refine below_set ?_ (IsS69.ge HI114.out) | refine below_set ?_ GE116.out) | exact HB.out)⟩⟩
    rw [if_neg c74] at H
    have c74b0 : decide (x8_4 < 0) = false := decide_eq_false c74
    clear c74
    by_cases c77 : 0 ≤ x8_4
    rotate_left
    ·rw [if_neg c77] at H
     exact absurd H (by simp)
    rw [if_pos c77] at H
    have c77b0 : decide (0 ≤ x8_4) = true := decide_eq_true c77
    clear c77
    by_cases c78 : x8_4 < (x5_1.length : Int)
    rotate_left
    ·rw [if_neg c78] at H
     exact absurd H (by simp)
    rw [if_pos c78] at H
    have c78b0 : decide (x8_4 < (x5_1.length : Int)) = true := decide_eq_true c78
    clear c78
    by_cases c79 : (rd x5_1 x12_4) < (rd x5_1 x8_4)
    ·rw [if_pos c79] at H
     have c79b0 : decide ((rd x5_1 x12_4) < (rd x5_1 x8_4)) = true := decide_eq_true c79
     clear c79
     have H' := Aside0.mk H
     clear H
     try go_wp2
     obtain ⟨Ao81, co81, eo81⟩ := Kd.R_slice HO_5.out
     (first | subst eo81 | (injection eo81 with f1_ f2_ f3_; have f4_ := f1_.symm; have f5_ := f3_.symm; clear f1_ f2_ f3_; subst f4_; subst f5_))
     have p137 : 0 ≤ (x12_4 : Int) := of_decide_eq_true (by first | (with_reducible assumption) | assumption)
     have q137 : x12_4 < (x5_1.length : Int) := of_decide_eq_true (by first | (with_reducible assumption) | assumption)
     obtain ⟨ad137, e137, hx137_0⟩ := Kd.at_int (Kd.R_reads' HO_5.out).2.2 x12_4 p137 q137
     cases e137
     replace p137 := eq_true p137
     replace q137 := eq_true q137
     have p138 : 0 ≤ (x12_4 : Int) := of_decide_eq_true (by first | (with_reducible assumption) | assumption)
     have q138 : x12_4 < (x5_1.length : Int) := of_decide_eq_true (by first | (with_reducible assumption) | assumption)
     obtain ⟨ad138, e138, hx138_0⟩ := Kd.at_int (Kd.R_reads' HO_5.out).2.2 x12_4 p138 q138
     obtain rfl : ad137 = ad138 := (by injection e138)
     replace p138 := eq_true p138
     replace q138 := eq_true q138
     have p139 : 0 ≤ (x8_4 : Int) := of_decide_eq_true (by first | (with_reducible assumption) | assumption)
     have q139 : x8_4 < (x5_1.length : Int) := of_decide_eq_true (by first | (with_reducible assumption) | assumption)
     obtain ⟨ad139, e139, hx139_0⟩ := Kd.at_int (Kd.R_reads' HO_5.out).2.2 x8_4 p139 q139
     obtain rfl : ad137 = ad139 := (by injection e139)
     replace p139 := eq_true p139
     replace q139 := eq_true q139
     have hcz_1 : wr.cell? ⟨gb116, 1, none⟩ = some (.int .i64 ((rd_T36 l0 x6_1).f1)) := (blk_cell BK116.out 1).trans rfl
     go_quiet (fail)
     try go_wp2
     go_meet
     case rel => exact ⟨_, (true), (by first | rfl | (simp; done) | (simp [*]; done)), H', ⟨by have := HK1.out; have := HK2.out; have := HJ19.out; have := HK4.out; first | omega | exact Nat.le_refl _⟩, ⟨by (with_reducible repeat (first | apply Kd.R_alloc | apply Kd.R_drewN | apply Kd.R_drew)); exact HO_4.out⟩, ⟨by (with_reducible repeat (first | apply Kd.R_alloc | apply Kd.R_drewN | apply Kd.R_drew)); exact HO_5.out⟩, ⟨by (with_reducible repeat (first | refine blk_drewN ?_ _ | refine blk_drew ?_ | refine blk_alloc ?_ _)); exact BK116.out⟩, ⟨by repeat (first | (with_reducible first | exact HI114.out | apply IsS69.alloc | apply IsS69.drewN | apply IsS69.drew | refine IsS69.far ?_ (by (repeat (first | exact (Opq.NP.blk BK116.out (by decide)) | (with_reducible apply Opq.NP.setCell) | (with_reducible apply Opq.NP.drewN) | (with_reducible apply Opq.NP.drew) | (with_reducible apply Opq.NP.alloc))); done) _) | exact HI114.out)⟩, ⟨by repeat (first | (with_reducible first | exact HB.out | apply below_alloc | apply pw_below_drewN | apply below_drew1 | refine below_set ?_ (IsS69.ge HI114.out) | refine below_set ?_ GE116.out) | exact HB.out)⟩⟩
    rw [if_neg c79] at H
    have c79b0 : decide ((rd x5_1 x12_4) < (rd x5_1 x8_4)) = false := decide_eq_false c79
    clear c79
    by_cases c82 : (rd x5_1 x12_4) = (rd x5_1 x8_4)
    rotate_left
    ·rw [if_neg c82] at H
     have c82b0 : ((rd x5_1 x12_4) == (rd x5_1 x8_4)) = false := beq_eq_false_iff_ne.mpr c82
     have c82b1 : ((rd x5_1 x12_4) != (rd x5_1 x8_4)) = true := bne_iff_ne.mpr c82
     have H' := Aside0.mk H
     clear H
     try go_wp2
     obtain ⟨Ao87, co87, eo87⟩ := Kd.R_slice HO_5.out
     (first | subst eo87 | (injection eo87 with f1_ f2_ f3_; have f4_ := f1_.symm; have f5_ := f3_.symm; clear f1_ f2_ f3_; subst f4_; subst f5_))
     have p137 : 0 ≤ (x12_4 : Int) := of_decide_eq_true (by first | (with_reducible assumption) | assumption)
     have q137 : x12_4 < (x5_1.length : Int) := of_decide_eq_true (by first | (with_reducible assumption) | assumption)
     obtain ⟨ad137, e137, hx137_0⟩ := Kd.at_int (Kd.R_reads' HO_5.out).2.2 x12_4 p137 q137
     cases e137
     replace p137 := eq_true p137
     replace q137 := eq_true q137
     have p138 : 0 ≤ (x12_4 : Int) := of_decide_eq_true (by first | (with_reducible assumption) | assumption)
     have q138 : x12_4 < (x5_1.length : Int) := of_decide_eq_true (by first | (with_reducible assumption) | assumption)
     obtain ⟨ad138, e138, hx138_0⟩ := Kd.at_int (Kd.R_reads' HO_5.out).2.2 x12_4 p138 q138
     obtain rfl : ad137 = ad138 := (by injection e138)
     replace p138 := eq_true p138
     replace q138 := eq_true q138
     have p139 : 0 ≤ (x8_4 : Int) := of_decide_eq_true (by first | (with_reducible assumption) | assumption)
     have q139 : x8_4 < (x5_1.length : Int) := of_decide_eq_true (by first | (with_reducible assumption) | assumption)
     obtain ⟨ad139, e139, hx139_0⟩ := Kd.at_int (Kd.R_reads' HO_5.out).2.2 x8_4 p139 q139
     obtain rfl : ad137 = ad139 := (by injection e139)
     replace p139 := eq_true p139
     replace q139 := eq_true q139
     have p140 : 0 ≤ (x12_4 : Int) := of_decide_eq_true (by first | (with_reducible assumption) | assumption)
     have q140 : x12_4 < (x5_1.length : Int) := of_decide_eq_true (by first | (with_reducible assumption) | assumption)
     obtain ⟨ad140, e140, hx140_0⟩ := Kd.at_int (Kd.R_reads' HO_5.out).2.2 x12_4 p140 q140
     obtain rfl : ad137 = ad140 := (by injection e140)
     replace p140 := eq_true p140
     replace q140 := eq_true q140
     have p141 : 0 ≤ (x8_4 : Int) := of_decide_eq_true (by first | (with_reducible assumption) | assumption)
     have q141 : x8_4 < (x5_1.length : Int) := of_decide_eq_true (by first | (with_reducible assumption) | assumption)
     obtain ⟨ad141, e141, hx141_0⟩ := Kd.at_int (Kd.R_reads' HO_5.out).2.2 x8_4 p141 q141
     obtain rfl : ad137 = ad141 := (by injection e141)
     replace p141 := eq_true p141
     replace q141 := eq_true q141
     have hcz_1 : wr.cell? ⟨gb116, 1, none⟩ = some (.int .i64 ((rd_T36 l0 x6_1).f1)) := (blk_cell BK116.out 1).trans rfl
     go_quiet (fail)
     try go_wp2
     go_meet
     case rel => exact ⟨_, (false), (by first | rfl | (simp; done) | (simp [*]; done)), H', ⟨by have := HK1.out; have := HK2.out; have := HJ19.out; have := HK4.out; first | omega | exact Nat.le_refl _⟩, ⟨by (with_reducible repeat (first | apply Kd.R_alloc | apply Kd.R_drewN | apply Kd.R_drew)); exact HO_4.out⟩, ⟨by (with_reducible repeat (first | apply Kd.R_alloc | apply Kd.R_drewN | apply Kd.R_drew)); exact HO_5.out⟩, ⟨by (with_reducible repeat (first | refine blk_drewN ?_ _ | refine blk_drew ?_ | refine blk_alloc ?_ _)); exact BK116.out⟩, ⟨by repeat (first | (with_reducible first | exact HI114.out | apply IsS69.alloc | apply IsS69.drewN | apply IsS69.drew | refine IsS69.far ?_ (by (repeat (first | exact (Opq.NP.blk BK116.out (by decide)) | (with_reducible apply Opq.NP.setCell) | (with_reducible apply Opq.NP.drewN) | (with_reducible apply Opq.NP.drew) | (with_reducible apply Opq.NP.alloc))); done) _) | exact HI114.out)⟩, ⟨by repeat (first | (with_reducible first | exact HB.out | apply below_alloc | apply pw_below_drewN | apply below_drew1 | refine below_set ?_ (IsS69.ge HI114.out) | refine below_set ?_ GE116.out) | exact HB.out)⟩⟩
    rw [if_pos c82] at H
    have c82b0 : ((rd x5_1 x12_4) == (rd x5_1 x8_4)) = true := beq_iff_eq.mpr c82
    have c82b1 : ((rd x5_1 x12_4) != (rd x5_1 x8_4)) = false := bne_eq_false_iff_eq.mpr c82
    clear c82
    by_cases c83 : x8_4 < (x4_1.length : Int)
    rotate_left
    ·rw [if_neg c83] at H
     exact absurd H (by simp)
    rw [if_pos c83] at H
    have c83b0 : decide (x8_4 < (x4_1.length : Int)) = true := decide_eq_true c83
    clear c83
    have H' := Aside0.mk H
    clear H
    try go_wp2
    obtain ⟨Ao85, co85, eo85⟩ := Kd.R_slice HO_5.out
    (first | subst eo85 | (injection eo85 with f1_ f2_ f3_; have f4_ := f1_.symm; have f5_ := f3_.symm; clear f1_ f2_ f3_; subst f4_; subst f5_))
    have p137 : 0 ≤ (x12_4 : Int) := of_decide_eq_true (by first | (with_reducible assumption) | assumption)
    have q137 : x12_4 < (x5_1.length : Int) := of_decide_eq_true (by first | (with_reducible assumption) | assumption)
    obtain ⟨ad137, e137, hx137_0⟩ := Kd.at_int (Kd.R_reads' HO_5.out).2.2 x12_4 p137 q137
    cases e137
    replace p137 := eq_true p137
    replace q137 := eq_true q137
    have p138 : 0 ≤ (x12_4 : Int) := of_decide_eq_true (by first | (with_reducible assumption) | assumption)
    have q138 : x12_4 < (x5_1.length : Int) := of_decide_eq_true (by first | (with_reducible assumption) | assumption)
    obtain ⟨ad138, e138, hx138_0⟩ := Kd.at_int (Kd.R_reads' HO_5.out).2.2 x12_4 p138 q138
    obtain rfl : ad137 = ad138 := (by injection e138)
    replace p138 := eq_true p138
    replace q138 := eq_true q138
    have p139 : 0 ≤ (x8_4 : Int) := of_decide_eq_true (by first | (with_reducible assumption) | assumption)
    have q139 : x8_4 < (x5_1.length : Int) := of_decide_eq_true (by first | (with_reducible assumption) | assumption)
    obtain ⟨ad139, e139, hx139_0⟩ := Kd.at_int (Kd.R_reads' HO_5.out).2.2 x8_4 p139 q139
    obtain rfl : ad137 = ad139 := (by injection e139)
    replace p139 := eq_true p139
    replace q139 := eq_true q139
    have p140 : 0 ≤ (x12_4 : Int) := of_decide_eq_true (by first | (with_reducible assumption) | assumption)
    have q140 : x12_4 < (x5_1.length : Int) := of_decide_eq_true (by first | (with_reducible assumption) | assumption)
    obtain ⟨ad140, e140, hx140_0⟩ := Kd.at_int (Kd.R_reads' HO_5.out).2.2 x12_4 p140 q140
    obtain rfl : ad137 = ad140 := (by injection e140)
    replace p140 := eq_true p140
    replace q140 := eq_true q140
    have p141 : 0 ≤ (x8_4 : Int) := of_decide_eq_true (by first | (with_reducible assumption) | assumption)
    have q141 : x8_4 < (x5_1.length : Int) := of_decide_eq_true (by first | (with_reducible assumption) | assumption)
    obtain ⟨ad141, e141, hx141_0⟩ := Kd.at_int (Kd.R_reads' HO_5.out).2.2 x8_4 p141 q141
    obtain rfl : ad137 = ad141 := (by injection e141)
    replace p141 := eq_true p141
    replace q141 := eq_true q141
    have p142 : 0 ≤ (x12_4 : Int) := of_decide_eq_true (by first | (with_reducible assumption) | assumption)
    have q142 : x12_4 < (x4_1.length : Int) := of_decide_eq_true (by first | (with_reducible assumption) | assumption)
    obtain ⟨ad142, e142, hx142_0⟩ := Kd.at_string (Kd.R_reads' HO_4.out).2.2 x12_4 p142 q142
    cases e142
    replace p142 := eq_true p142
    replace q142 := eq_true q142
    have p143 : 0 ≤ (x8_4 : Int) := of_decide_eq_true (by first | (with_reducible assumption) | assumption)
    have q143 : x8_4 < (x4_1.length : Int) := of_decide_eq_true (by first | (with_reducible assumption) | assumption)
    obtain ⟨ad143, e143, hx143_0⟩ := Kd.at_string (Kd.R_reads' HO_4.out).2.2 x8_4 p143 q143
    obtain rfl : ad142 = ad143 := (by injection e143)
    replace p143 := eq_true p143
    replace q143 := eq_true q143
    have hcz_1 : wr.cell? ⟨gb116, 1, none⟩ = some (.int .i64 ((rd_T36 l0 x6_1).f1)) := (blk_cell BK116.out 1).trans rfl
    go_quiet (fail)
    try go_wp2
    go_meet
    case rel => exact ⟨_, ((Op.bytesLess ((rdOf ByteArray.empty x4_1 x12_4).toList) ((rdOf ByteArray.empty x4_1 x8_4).toList))), (by first | rfl | (simp; done) | (simp [*]; done)), H', ⟨by have := HK1.out; have := HK2.out; have := HJ19.out; have := HK4.out; first | omega | exact Nat.le_refl _⟩, ⟨by (with_reducible repeat (first | apply Kd.R_alloc | apply Kd.R_drewN | apply Kd.R_drew)); exact HO_4.out⟩, ⟨by (with_reducible repeat (first | apply Kd.R_alloc | apply Kd.R_drewN | apply Kd.R_drew)); exact HO_5.out⟩, ⟨by (with_reducible repeat (first | refine blk_drewN ?_ _ | refine blk_drew ?_ | refine blk_alloc ?_ _)); exact BK116.out⟩, ⟨by repeat (first | (with_reducible first | exact HI114.out | apply IsS69.alloc | apply IsS69.drewN | apply IsS69.drew | refine IsS69.far ?_ (by (repeat (first | exact (Opq.NP.blk BK116.out (by decide)) | (with_reducible apply Opq.NP.setCell) | (with_reducible apply Opq.NP.drewN) | (with_reducible apply Opq.NP.drew) | (with_reducible apply Opq.NP.alloc))); done) _) | exact HI114.out)⟩, ⟨by repeat (first | (with_reducible first | exact HB.out | apply below_alloc | apply pw_below_drewN | apply below_drew1 | refine below_set ?_ (IsS69.ge HI114.out) | refine below_set ?_ GE116.out) | exact HB.out)⟩⟩
   case rest => as_aux_lemma =>
    clear HC70
    try clear p1
    try clear q1
    try clear hx1
    try clear p2
    try clear c7
    try clear p13
    try clear q13
    try clear hx13
    try clear p14
    try clear q14
    try clear hx14
    try clear c71
    try clear c72
    try clear c73
    try clear c73b0
    try clear c77
    try clear c78
    try clear hx137_0
    try clear hx138_0
    try clear hx139_0
    try clear hx140_0
    try clear hx141_0
    try clear p137
    try clear p138
    try clear p139
    try clear p140
    try clear p141
    try clear q137
    try clear q138
    try clear q139
    try clear q140
    try clear q141
    obtain ⟨kq, x126_69, rfl, HA, HJ69, HO_4, HO_5, BK116, HI114, HB⟩ := hcut
    cases kq with
    | zero => exact absurd HA.out (by simp [TP.j4])
    | succ kj69 =>
    have H := HA.out
    clear HA
    simp only [TP.j4] at H
    by_cases c90 : x126_69 = true
    ·subst c90
     have H1 : (TP.l2 kj69 l0 x4_1 x5_1 x6_1 x12_4 (wrap64 (x12_4 + 1)) t120 ((rd_T36 l0 x6_1).f0) ((rd_T36 l0 x6_1).f1) ((rd_T36 l0 x6_1).f2)) = some r := by rw [if_pos rfl] at H; exact H
     clear H
     have H := H1
     clear H1
     have H' := Aside0.mk H
     clear H
     go_wp2
     go_roundg kj69
     case measure => have := HK1.out; have := HK2.out; have := HJ19.out; have := HK4.out; have := HJ69.out; omega
     case rel => exact ⟨(x12_4), (wrap64 (x12_4 + 1)), (by first | rfl | (simp; done) | (simp [*]; done)), (by first | rfl | (simp; done) | (simp [*]; done)), H', ⟨by have := HK1.out; have := HK2.out; have := HJ19.out; have := HK4.out; have := HJ69.out; omega⟩, ⟨by (with_reducible repeat (first | apply Kd.R_alloc | apply Kd.R_drewN | apply Kd.R_drew)); exact HO_4.out⟩, ⟨by (with_reducible repeat (first | apply Kd.R_alloc | apply Kd.R_drewN | apply Kd.R_drew)); exact HO_5.out⟩, ⟨by (with_reducible repeat (first | refine blk_drewN ?_ _ | refine blk_drew ?_ | refine blk_alloc ?_ _)); exact BK116.out⟩, ⟨by repeat (first | (with_reducible first | exact HI114.out | apply IsS69.alloc | apply IsS69.drewN | apply IsS69.drew | refine IsS69.far ?_ (by (repeat (first | exact (Opq.NP.blk BK116.out (by decide)) | (with_reducible apply Opq.NP.setCell) | (with_reducible apply Opq.NP.drewN) | (with_reducible apply Opq.NP.drew) | (with_reducible apply Opq.NP.alloc))); done) _) | exact HI114.out)⟩, ⟨by repeat (first | (with_reducible first | exact HB.out | apply below_alloc | apply pw_below_drewN | apply below_drew1 | refine below_set ?_ (IsS69.ge HI114.out) | refine below_set ?_ GE116.out) | exact HB.out)⟩⟩
    replace c90 := Bool.eq_false_iff.mpr c90
    subst c90
    have H1 : (TP.l2 kj69 l0 x4_1 x5_1 x6_1 x8_4 (wrap64 (x12_4 + 1)) t120 ((rd_T36 l0 x6_1).f0) ((rd_T36 l0 x6_1).f1) ((rd_T36 l0 x6_1).f2)) = some r := by rw [if_neg (show ¬ (false = true) by decide)] at H; exact H
    clear H
    have H := H1
    clear H1
    have H' := Aside0.mk H
    clear H
    go_wp2
    go_roundg kj69
    case measure => have := HK1.out; have := HK2.out; have := HJ19.out; have := HK4.out; have := HJ69.out; omega
    case rel => exact ⟨(x8_4), (wrap64 (x12_4 + 1)), (by first | rfl | (simp; done) | (simp [*]; done)), (by first | rfl | (simp; done) | (simp [*]; done)), H', ⟨by have := HK1.out; have := HK2.out; have := HJ19.out; have := HK4.out; have := HJ69.out; omega⟩, ⟨by (with_reducible repeat (first | apply Kd.R_alloc | apply Kd.R_drewN | apply Kd.R_drew)); exact HO_4.out⟩, ⟨by (with_reducible repeat (first | apply Kd.R_alloc | apply Kd.R_drewN | apply Kd.R_drew)); exact HO_5.out⟩, ⟨by (with_reducible repeat (first | refine blk_drewN ?_ _ | refine blk_drew ?_ | refine blk_alloc ?_ _)); exact BK116.out⟩, ⟨by repeat (first | (with_reducible first | exact HI114.out | apply IsS69.alloc | apply IsS69.drewN | apply IsS69.drew | refine IsS69.far ?_ (by (repeat (first | exact (Opq.NP.blk BK116.out (by decide)) | (with_reducible apply Opq.NP.setCell) | (with_reducible apply Opq.NP.drewN) | (with_reducible apply Opq.NP.drew) | (with_reducible apply Opq.NP.alloc))); done) _) | exact HI114.out)⟩, ⟨by repeat (first | (with_reducible first | exact HB.out | apply below_alloc | apply pw_below_drewN | apply below_drew1 | refine below_set ?_ (IsS69.ge HI114.out) | refine below_set ?_ GE116.out) | exact HB.out)⟩⟩
  case rest => as_aux_lemma =>
   clear HC33
   try clear c1
   try clear p1
   try clear q1
   try clear hx1
   try clear p2
   try clear c6
   try clear p6
   try clear c7
   try clear c9
   try clear c10
   try clear c13
   try clear p13
   try clear q13
   try clear hx13
   try clear p14
   try clear q14
   try clear hx14
   try clear p64
   try clear c69
   try clear c69b0
   try clear c71
   try clear c72
   try clear c73
   try clear c73b0
   try clear c77
   try clear c78
   try clear c90
   try clear c93
   try clear c96
   try clear c96b0
   try clear c96b1
   try clear c96b2
   try clear c97
   try clear c98
   try clear c98b0
   try clear c99
   try clear c99b0
   try clear c100
   try clear c100b0
   try clear c100b1
   try clear c101
   try clear c101b0
   try clear c102
   try clear c102b0
   try clear c102b1
   try clear c105
   try clear c105b0
   try clear c105b1
   try clear c106
   try clear hcz94_0
   try clear hcz94_1
   try clear hcz94_2
   try clear hfz94_0
   try clear hfz94_1
   try clear hfz94_2
   try clear hx137_0
   try clear hx138_0
   try clear hx139_0
   try clear hx140_0
   try clear hx141_0
   try clear hx148_0
   try clear hx149_0
   try clear p1
   try clear p13
   try clear p137
   try clear p138
   try clear p139
   try clear p14
   try clear p140
   try clear p141
   try clear p148
   try clear p149
   try clear p2
   try clear p6
   try clear p64
   try clear q1
   try clear q13
   try clear q137
   try clear q138
   try clear q139
   try clear q14
   try clear q140
   try clear q141
   try clear q148
   try clear q149
   obtain ⟨kq, x4_32, x5_32, x8_32, x115000_32, rfl, HA, HJ32, HO_4, HO_5, BK116, HI114, HB⟩ := hcut
   cases kq with
   | zero => exact absurd HA.out (by simp [TP.j6])
   | succ kj32 =>
   have H := HA.out
   clear HA
   simp only [TP.j6] at H
   by_cases c107 : x8_32 ≥ 0
   rotate_left
   ·rw [if_neg c107] at H
    have c107b0 : decide (0 ≤ x8_32) = false := decide_eq_false c107
    clear c107
    have H' := Aside0.mk H
    clear H
    go_wp2
    go_roundg kj32
    case measure => have := HK1.out; have := HK2.out; have := HJ19.out; have := HJ32.out; omega
    case rel => exact ⟨(x4_32), (x5_32), (wrap64 (x6_1 + 1)), (x115000_32), (by first | rfl | (simp; done) | (simp [*]; done)), H', ⟨by have := HK1.out; have := HK2.out; have := HJ19.out; have := HJ32.out; omega⟩, ⟨by (with_reducible repeat (first | apply Kd.R_alloc | apply Kd.R_drewN | apply Kd.R_drew)); exact HO_4.out⟩, ⟨by (with_reducible repeat (first | apply Kd.R_alloc | apply Kd.R_drewN | apply Kd.R_drew)); exact HO_5.out⟩, ⟨by repeat (first | (with_reducible first | exact HI114.out | apply IsS69.alloc | apply IsS69.drewN | apply IsS69.drew | refine IsS69.far ?_ (by (repeat (first | exact (Opq.NP.blk BK116.out (by decide)) | (with_reducible apply Opq.NP.setCell) | (with_reducible apply Opq.NP.drewN) | (with_reducible apply Opq.NP.drew) | (with_reducible apply Opq.NP.alloc))); done) _) | exact HI114.out)⟩, ⟨by repeat (first | (with_reducible first | exact HB.out | apply below_alloc | apply pw_below_drewN | apply below_drew1 | refine below_set ?_ (IsS69.ge HI114.out) | refine below_set ?_ GE116.out) | exact HB.out)⟩⟩
   rw [if_pos c107] at H
   have c107b0 : decide (0 ≤ x8_32) = true := decide_eq_true c107
   clear c107
   obtain ⟨y150, hy150⟩ : ∃ y_ : List ByteArray, y_ = (([] : List ByteArray)) := ⟨_, rfl⟩
   replace H : (if 0 ≤ x8_32 then (if x8_32 ≤ (x4_32.length : Int) then ((some (x4_32.take (x8_32 : Int).toNat : List ByteArray)).bind fun y153 => (if y150.length + y153.length < 8796093022208 then ((some (y150 ++ y153 : List ByteArray)).bind fun y157 => (if 0 ≤ (wrap64 (x8_32 + 1)) then (if (wrap64 (x8_32 + 1)) ≤ (x4_32.length : Int) then ((some (x4_32.drop ((wrap64 (x8_32 + 1)) : Int).toNat : List ByteArray)).bind fun y160 => (if y157.length + y160.length < 8796093022208 then ((some (([] : List Int) : List Int)).bind fun y167 => (if x8_32 ≤ (x5_32.length : Int) then ((some (x5_32.take (x8_32 : Int).toNat : List Int)).bind fun y170 => (if y167.length + y170.length < 17592186044416 then ((some (y167 ++ y170 : List Int)).bind fun y174 => (if (wrap64 (x8_32 + 1)) ≤ (x5_32.length : Int) then ((some (x5_32.drop ((wrap64 (x8_32 + 1)) : Int).toNat : List Int)).bind fun y177 => (if y174.length + y177.length < 17592186044416 then (TP.l0 kj32 l0 (y157 ++ y160) (y174 ++ y177) (wrap64 (x6_1 + 1)) x115000_32) else (none))) else (none))) else (none))) else (none))) else (none))) else (none)) else (none))) else (none))) else (none)) else (none)) = some r := by first | (rw [hy150]; with_reducible exact H) | (have H2_ := (Option.bind_some _ _).symm.trans H; rw [hy150]; with_reducible exact H2_) | (have H2_ := (Option.bind_some _ _).symm.trans H; with_reducible exact H2_) | with_reducible exact H | (rw [hy150]; exact H) | exact H
   have Ny150 := Aside0.mk hy150
   clear hy150
   by_cases c108 : 0 ≤ x8_32
   rotate_left
   ·rw [if_neg c108] at H
    exact absurd H (by simp)
   rw [if_pos c108] at H
   have c108b0 := eq_true c108
   have c108b1 : decide (0 ≤ x8_32) = true := decide_eq_true c108
   clear c108
   by_cases c109 : x8_32 ≤ (x4_32.length : Int)
   rotate_left
   ·rw [if_neg c109] at H
    exact absurd H (by simp)
   rw [if_pos c109] at H
   have c109b0 := eq_true c109
   have c109b1 : decide (x8_32 ≤ (x4_32.length : Int)) = true := decide_eq_true c109
   clear c109
   obtain ⟨y153, hy153⟩ : ∃ y_ : List ByteArray, y_ = (x4_32.take (x8_32 : Int).toNat) := ⟨_, rfl⟩
   replace H : (if y150.length + y153.length < 8796093022208 then ((some (y150 ++ y153 : List ByteArray)).bind fun y157 => (if 0 ≤ (wrap64 (x8_32 + 1)) then (if (wrap64 (x8_32 + 1)) ≤ (x4_32.length : Int) then ((some (x4_32.drop ((wrap64 (x8_32 + 1)) : Int).toNat : List ByteArray)).bind fun y160 => (if y157.length + y160.length < 8796093022208 then ((some (([] : List Int) : List Int)).bind fun y167 => (if x8_32 ≤ (x5_32.length : Int) then ((some (x5_32.take (x8_32 : Int).toNat : List Int)).bind fun y170 => (if y167.length + y170.length < 17592186044416 then ((some (y167 ++ y170 : List Int)).bind fun y174 => (if (wrap64 (x8_32 + 1)) ≤ (x5_32.length : Int) then ((some (x5_32.drop ((wrap64 (x8_32 + 1)) : Int).toNat : List Int)).bind fun y177 => (if y174.length + y177.length < 17592186044416 then (TP.l0 kj32 l0 (y157 ++ y160) (y174 ++ y177) (wrap64 (x6_1 + 1)) x115000_32) else (none))) else (none))) else (none))) else (none))) else (none))) else (none)) else (none))) else (none)) = some r := by first | (rw [hy153]; with_reducible exact H) | (have H2_ := (Option.bind_some _ _).symm.trans H; rw [hy153]; with_reducible exact H2_) | (have H2_ := (Option.bind_some _ _).symm.trans H; with_reducible exact H2_) | with_reducible exact H | (rw [hy153]; exact H) | exact H
   have Ny153 := Aside0.mk hy153
   clear hy153
   by_cases c110 : y150.length + y153.length < 8796093022208
   rotate_left
   ·rw [if_neg c110] at H
    exact absurd H (by simp)
   rw [if_pos c110] at H
   have LMc110 := Aside0.mk c110
   clear c110
   obtain ⟨y157, hy157⟩ : ∃ y_ : List ByteArray, y_ = (y150 ++ y153) := ⟨_, rfl⟩
   replace H : (if 0 ≤ (wrap64 (x8_32 + 1)) then (if (wrap64 (x8_32 + 1)) ≤ (x4_32.length : Int) then ((some (x4_32.drop ((wrap64 (x8_32 + 1)) : Int).toNat : List ByteArray)).bind fun y160 => (if y157.length + y160.length < 8796093022208 then ((some (([] : List Int) : List Int)).bind fun y167 => (if x8_32 ≤ (x5_32.length : Int) then ((some (x5_32.take (x8_32 : Int).toNat : List Int)).bind fun y170 => (if y167.length + y170.length < 17592186044416 then ((some (y167 ++ y170 : List Int)).bind fun y174 => (if (wrap64 (x8_32 + 1)) ≤ (x5_32.length : Int) then ((some (x5_32.drop ((wrap64 (x8_32 + 1)) : Int).toNat : List Int)).bind fun y177 => (if y174.length + y177.length < 17592186044416 then (TP.l0 kj32 l0 (y157 ++ y160) (y174 ++ y177) (wrap64 (x6_1 + 1)) x115000_32) else (none))) else (none))) else (none))) else (none))) else (none))) else (none)) else (none)) = some r := by first | (rw [hy157]; with_reducible exact H) | (have H2_ := (Option.bind_some _ _).symm.trans H; rw [hy157]; with_reducible exact H2_) | (have H2_ := (Option.bind_some _ _).symm.trans H; with_reducible exact H2_) | with_reducible exact H | (rw [hy157]; exact H) | exact H
   have Ny157 := Aside0.mk hy157
   clear hy157
   obtain ⟨ji111, hji111⟩ : ∃ j_ : Int, (wrap64 (x8_32 + 1)) = j_ := ⟨_, rfl⟩
   replace H : (if 0 ≤ (ji111) then (if (ji111) ≤ (x4_32.length : Int) then ((some (x4_32.drop ((ji111) : Int).toNat : List ByteArray)).bind fun y160 => (if y157.length + y160.length < 8796093022208 then ((some (([] : List Int) : List Int)).bind fun y167 => (if x8_32 ≤ (x5_32.length : Int) then ((some (x5_32.take (x8_32 : Int).toNat : List Int)).bind fun y170 => (if y167.length + y170.length < 17592186044416 then ((some (y167 ++ y170 : List Int)).bind fun y174 => (if (ji111) ≤ (x5_32.length : Int) then ((some (x5_32.drop ((ji111) : Int).toNat : List Int)).bind fun y177 => (if y174.length + y177.length < 17592186044416 then (TP.l0 kj32 l0 (y157 ++ y160) (y174 ++ y177) (wrap64 (x6_1 + 1)) x115000_32) else (none))) else (none))) else (none))) else (none))) else (none))) else (none)) else (none)) = some r := by first | (rw [hji111] at H; exact H) | (simp only [hji111] at H ⊢; exact H)
   have hji111w : (IntKind.i64.wrap (x8_32 + 1)) = ji111 := (i64_w _).trans hji111
   by_cases c112 : 0 ≤ (ji111)
   rotate_left
   ·rw [if_neg c112] at H
    exact absurd H (by simp)
   rw [if_pos c112] at H
   have c112b0 := eq_true c112
   have c112b1 : decide (0 ≤ (ji111)) = true := decide_eq_true c112
   clear c112
   by_cases c113 : (ji111) ≤ (x4_32.length : Int)
   rotate_left
   ·rw [if_neg c113] at H
    exact absurd H (by simp)
   rw [if_pos c113] at H
   have c113b0 := eq_true c113
   have c113b1 : decide ((ji111) ≤ (x4_32.length : Int)) = true := decide_eq_true c113
   clear c113
   obtain ⟨y160, hy160⟩ : ∃ y_ : List ByteArray, y_ = (x4_32.drop ((ji111) : Int).toNat) := ⟨_, rfl⟩
   replace H : (if y157.length + y160.length < 8796093022208 then ((some (([] : List Int) : List Int)).bind fun y167 => (if x8_32 ≤ (x5_32.length : Int) then ((some (x5_32.take (x8_32 : Int).toNat : List Int)).bind fun y170 => (if y167.length + y170.length < 17592186044416 then ((some (y167 ++ y170 : List Int)).bind fun y174 => (if (ji111) ≤ (x5_32.length : Int) then ((some (x5_32.drop ((ji111) : Int).toNat : List Int)).bind fun y177 => (if y174.length + y177.length < 17592186044416 then (TP.l0 kj32 l0 (y157 ++ y160) (y174 ++ y177) (wrap64 (x6_1 + 1)) x115000_32) else (none))) else (none))) else (none))) else (none))) else (none)) = some r := by first | (rw [hy160]; with_reducible exact H) | (have H2_ := (Option.bind_some _ _).symm.trans H; rw [hy160]; with_reducible exact H2_) | (have H2_ := (Option.bind_some _ _).symm.trans H; with_reducible exact H2_) | with_reducible exact H | (rw [hy160]; exact H) | exact H
   have Ny160 := Aside0.mk hy160
   clear hy160
   by_cases c114 : y157.length + y160.length < 8796093022208
   rotate_left
   ·rw [if_neg c114] at H
    exact absurd H (by simp)
   rw [if_pos c114] at H
   have LMc114 := Aside0.mk c114
   clear c114
   obtain ⟨y164, hy164⟩ : ∃ y_ : List ByteArray, y_ = (y157 ++ y160) := ⟨_, rfl⟩
   replace H : ((some (([] : List Int) : List Int)).bind fun y167 => (if x8_32 ≤ (x5_32.length : Int) then ((some (x5_32.take (x8_32 : Int).toNat : List Int)).bind fun y170 => (if y167.length + y170.length < 17592186044416 then ((some (y167 ++ y170 : List Int)).bind fun y174 => (if (ji111) ≤ (x5_32.length : Int) then ((some (x5_32.drop ((ji111) : Int).toNat : List Int)).bind fun y177 => (if y174.length + y177.length < 17592186044416 then (TP.l0 kj32 l0 y164 (y174 ++ y177) (wrap64 (x6_1 + 1)) x115000_32) else (none))) else (none))) else (none))) else (none))) = some r := by first | (rw [hy164]; with_reducible exact H) | (have H2_ := (Option.bind_some _ _).symm.trans H; rw [hy164]; with_reducible exact H2_) | (have H2_ := (Option.bind_some _ _).symm.trans H; with_reducible exact H2_) | with_reducible exact H | (rw [hy164]; exact H) | exact H
   have Ny164 := Aside0.mk hy164
   clear hy164
   obtain ⟨y167, hy167⟩ : ∃ y_ : List Int, y_ = (([] : List Int)) := ⟨_, rfl⟩
   replace H : (if x8_32 ≤ (x5_32.length : Int) then ((some (x5_32.take (x8_32 : Int).toNat : List Int)).bind fun y170 => (if y167.length + y170.length < 17592186044416 then ((some (y167 ++ y170 : List Int)).bind fun y174 => (if (ji111) ≤ (x5_32.length : Int) then ((some (x5_32.drop ((ji111) : Int).toNat : List Int)).bind fun y177 => (if y174.length + y177.length < 17592186044416 then (TP.l0 kj32 l0 y164 (y174 ++ y177) (wrap64 (x6_1 + 1)) x115000_32) else (none))) else (none))) else (none))) else (none)) = some r := by first | (rw [hy167]; with_reducible exact H) | (have H2_ := (Option.bind_some _ _).symm.trans H; rw [hy167]; with_reducible exact H2_) | (have H2_ := (Option.bind_some _ _).symm.trans H; with_reducible exact H2_) | with_reducible exact H | (rw [hy167]; exact H) | exact H
   have Ny167 := Aside0.mk hy167
   clear hy167
   have c115b0 := eq_true (of_decide_eq_true (by first | (with_reducible assumption) | assumption) : 0 ≤ x8_32)
   by_cases c116 : x8_32 ≤ (x5_32.length : Int)
   rotate_left
   ·rw [if_neg c116] at H
    exact absurd H (by simp)
   rw [if_pos c116] at H
   have c116b0 := eq_true c116
   have c116b1 : decide (x8_32 ≤ (x5_32.length : Int)) = true := decide_eq_true c116
   clear c116
   obtain ⟨y170, hy170⟩ : ∃ y_ : List Int, y_ = (x5_32.take (x8_32 : Int).toNat) := ⟨_, rfl⟩
   replace H : (if y167.length + y170.length < 17592186044416 then ((some (y167 ++ y170 : List Int)).bind fun y174 => (if (ji111) ≤ (x5_32.length : Int) then ((some (x5_32.drop ((ji111) : Int).toNat : List Int)).bind fun y177 => (if y174.length + y177.length < 17592186044416 then (TP.l0 kj32 l0 y164 (y174 ++ y177) (wrap64 (x6_1 + 1)) x115000_32) else (none))) else (none))) else (none)) = some r := by first | (rw [hy170]; with_reducible exact H) | (have H2_ := (Option.bind_some _ _).symm.trans H; rw [hy170]; with_reducible exact H2_) | (have H2_ := (Option.bind_some _ _).symm.trans H; with_reducible exact H2_) | with_reducible exact H | (rw [hy170]; exact H) | exact H
   have Ny170 := Aside0.mk hy170
   clear hy170
   by_cases c117 : y167.length + y170.length < 17592186044416
   rotate_left
   ·rw [if_neg c117] at H
    exact absurd H (by simp)
   rw [if_pos c117] at H
   have LMc117 := Aside0.mk c117
   clear c117
   obtain ⟨y174, hy174⟩ : ∃ y_ : List Int, y_ = (y167 ++ y170) := ⟨_, rfl⟩
   replace H : (if (ji111) ≤ (x5_32.length : Int) then ((some (x5_32.drop ((ji111) : Int).toNat : List Int)).bind fun y177 => (if y174.length + y177.length < 17592186044416 then (TP.l0 kj32 l0 y164 (y174 ++ y177) (wrap64 (x6_1 + 1)) x115000_32) else (none))) else (none)) = some r := by first | (rw [hy174]; with_reducible exact H) | (have H2_ := (Option.bind_some _ _).symm.trans H; rw [hy174]; with_reducible exact H2_) | (have H2_ := (Option.bind_some _ _).symm.trans H; with_reducible exact H2_) | with_reducible exact H | (rw [hy174]; exact H) | exact H
   have Ny174 := Aside0.mk hy174
   clear hy174
   have c118b0 := eq_true (of_decide_eq_true (by first | (with_reducible assumption) | assumption) : 0 ≤ (ji111))
   by_cases c119 : (ji111) ≤ (x5_32.length : Int)
   rotate_left
   ·rw [if_neg c119] at H
    exact absurd H (by simp)
   rw [if_pos c119] at H
   have c119b0 := eq_true c119
   have c119b1 : decide ((ji111) ≤ (x5_32.length : Int)) = true := decide_eq_true c119
   clear c119
   obtain ⟨y177, hy177⟩ : ∃ y_ : List Int, y_ = (x5_32.drop ((ji111) : Int).toNat) := ⟨_, rfl⟩
   replace H : (if y174.length + y177.length < 17592186044416 then (TP.l0 kj32 l0 y164 (y174 ++ y177) (wrap64 (x6_1 + 1)) x115000_32) else (none)) = some r := by first | (rw [hy177]; with_reducible exact H) | (have H2_ := (Option.bind_some _ _).symm.trans H; rw [hy177]; with_reducible exact H2_) | (have H2_ := (Option.bind_some _ _).symm.trans H; with_reducible exact H2_) | with_reducible exact H | (rw [hy177]; exact H) | exact H
   have Ny177 := Aside0.mk hy177
   clear hy177
   by_cases c120 : y174.length + y177.length < 17592186044416
   rotate_left
   ·rw [if_neg c120] at H
    exact absurd H (by simp)
   rw [if_pos c120] at H
   have LMc120 := Aside0.mk c120
   clear c120
   obtain ⟨y181, hy181⟩ : ∃ y_ : List Int, y_ = (y174 ++ y177) := ⟨_, rfl⟩
   replace H : (TP.l0 kj32 l0 y164 y181 (wrap64 (x6_1 + 1)) x115000_32) = some r := by first | (rw [hy181]; with_reducible exact H) | (have H2_ := (Option.bind_some _ _).symm.trans H; rw [hy181]; with_reducible exact H2_) | (have H2_ := (Option.bind_some _ _).symm.trans H; with_reducible exact H2_) | with_reducible exact H | (rw [hy181]; exact H) | exact H
   have Ny181 := Aside0.mk hy181
   clear hy181
   have H' := Aside0.mk H
   clear H
   try go_wp2
   have n0_ := Aside0.mk (Kd.R_drew HO_4.out)
   have n1_ := Aside0.mk (Kd.R_drew HO_5.out)
   have n2_ := Aside0.mk (blk_drew BK116.out)
   have n3_ := Aside0.mk (IsS69.drew HI114.out)
   have n4_ := Aside0.mk (below_drew1 HB.out)
   clear HO_4 HO_5 BK116 HI114 HB
   have HO_4 := n0_; have HO_5 := n1_; have BK116 := n2_; have HI114 := n3_; have HB := n4_
   clear n0_ n1_ n2_ n3_ n4_
   obtain ⟨Ao123, co123, eo123⟩ := Kd.R_slice HO_4.out
   (first | subst eo123 | (injection eo123 with f1_ f2_ f3_; have f4_ := f1_.symm; have f5_ := f3_.symm; clear f1_ f2_ f3_; subst f4_; subst f5_))
   have q122 : (x8_32 : Int) ≤ ((x4_32.length : Int) : Int) := of_decide_eq_true (by first | (with_reducible assumption) | assumption)
   obtain ⟨i0122, hi0122, _, hsz122, _⟩ := info_parts info9
   have hroom122 : x4_32.length ≤ co123 := (Kd.R_reads' HO_4.out).2.1
   have hC122 : Kd.C Kd.string _ Ao123 x4_32.length x4_32 := (Kd.R_reads' HO_4.out).2.2
   have hcut122 := cut_to (P := Try.prog) 33 9 .i64 Try.underlying33 hi0122 Ao123 x4_32.length co123 x8_32 (of_decide_eq_true (by first | (with_reducible assumption) | assumption)) q122 hroom122
   have hr122 := Kd.C_take (m := (x8_32 : Int).toNat) hC122 (by omega)
   have hy122 : y153.length = (x8_32 : Int).toNat := (by rw [Ny153.out, List.length_take]; omega)
   rw [← Ny153.out] at hr122
   rw [← hy122] at hcut122
   have HR156 := Aside0.mk hr122
   have HC156 := Aside0.mk (show y153.length ≤ co123 from by omega)
   clear hr122 hC122 hroom122 hi0122 hsz122
   have KY122 := Aside0.mk hy122
   clear hy122
   have KL122 := Aside0.mk (show (x8_32 : Int).toNat ≤ x4_32.length from by omega)
   replace q122 := eq_true q122
   have q124 : ((ji111) : Int) ≤ ((x4_32.length : Int) : Int) := of_decide_eq_true (by first | (with_reducible assumption) | assumption)
   obtain ⟨i0124, hi0124, _, hsz124, _⟩ := info_parts info9
   have hroom124 : x4_32.length ≤ co123 := (Kd.R_reads' HO_4.out).2.1
   have hC124 : Kd.C Kd.string _ Ao123 x4_32.length x4_32 := (Kd.R_reads' HO_4.out).2.2
   have q0124 : (0 : Int) ≤ ((ji111) : Int) := of_decide_eq_true (by first | (with_reducible assumption) | assumption)
   have hcut124 := cut_from (P := Try.prog) 33 9 .i64 Try.underlying33 hi0124 1 hsz124 Ao123 x4_32.length co123 (ji111) q0124 q124
   have hr124 := Kd.C_drop (m := ((ji111) : Int).toNat) (c := co123) hC124 (by omega) hroom124
   obtain ⟨A124, hA124⟩ : ∃ A1, A1 = (if co123 = ((ji111) : Int).toNat then Ao123 else (Ao123 : Option Addr).map (·.add (((ji111) : Int).toNat * 1))) := ⟨_, rfl⟩
   obtain ⟨c124, hc124⟩ : ∃ c1, c1 = co123 - ((ji111) : Int).toNat := ⟨_, rfl⟩
   have hy124 : y160.length = x4_32.length - ((ji111) : Int).toNat := (by rw [Ny160.out, List.length_drop] <;> omega)
   rw [show (x4_32).drop ((ji111) : Int).toNat = y160 from Ny160.out.symm] at hr124
   replace hr124 : Kd.C Kd.string _ A124 y160.length y160 := (by rw [hA124]; exact hr124)
   rw [← hy124, ← hA124, ← hc124] at hcut124
   have HR163 := Aside0.mk hr124
   have HC163 := Aside0.mk (show y160.length ≤ c124 from by rw [hy124, hc124]; exact Nat.sub_le_sub_right hroom124 _)
   clear hr124 hC124 hroom124 hi0124 hsz124 hc124
   have KY124 := Aside0.mk hy124
   have KA124 := Aside0.mk hA124
   clear hy124 hA124
   have KL124 := Aside0.mk (show ((ji111) : Int).toNat ≤ x4_32.length from by omega)
   replace q124 := eq_true q124
   obtain ⟨Ao126, co126, eo126⟩ := Kd.R_slice HO_5.out
   (first | subst eo126 | (injection eo126 with f1_ f2_ f3_; have f4_ := f1_.symm; have f5_ := f3_.symm; clear f1_ f2_ f3_; subst f4_; subst f5_))
   have q125 : (x8_32 : Int) ≤ ((x5_32.length : Int) : Int) := of_decide_eq_true (by first | (with_reducible assumption) | assumption)
   obtain ⟨i0125, hi0125, _, hsz125, _⟩ := info_parts info3
   have hroom125 : x5_32.length ≤ co126 := (Kd.R_reads' HO_5.out).2.1
   have hC125 : Kd.C (Kd.int .i64) _ Ao126 x5_32.length x5_32 := (Kd.R_reads' HO_5.out).2.2
   have hcut125 := cut_to (P := Try.prog) 34 3 .i64 Try.underlying34 hi0125 Ao126 x5_32.length co126 x8_32 (of_decide_eq_true (by first | (with_reducible assumption) | assumption)) q125 hroom125
   have hr125 := Kd.C_take (m := (x8_32 : Int).toNat) hC125 (by omega)
   have hy125 : y170.length = (x8_32 : Int).toNat := (by rw [Ny170.out, List.length_take]; omega)
   rw [← Ny170.out] at hr125
   rw [← hy125] at hcut125
   have HR173 := Aside0.mk hr125
   have HC173 := Aside0.mk (show y170.length ≤ co126 from by omega)
   clear hr125 hC125 hroom125 hi0125 hsz125
   have KY125 := Aside0.mk hy125
   clear hy125
   have KL125 := Aside0.mk (show (x8_32 : Int).toNat ≤ x5_32.length from by omega)
   replace q125 := eq_true q125
   have q127 : ((ji111) : Int) ≤ ((x5_32.length : Int) : Int) := of_decide_eq_true (by first | (with_reducible assumption) | assumption)
   obtain ⟨i0127, hi0127, _, hsz127, _⟩ := info_parts info3
   have hroom127 : x5_32.length ≤ co126 := (Kd.R_reads' HO_5.out).2.1
   have hC127 : Kd.C (Kd.int .i64) _ Ao126 x5_32.length x5_32 := (Kd.R_reads' HO_5.out).2.2
   have q0127 : (0 : Int) ≤ ((ji111) : Int) := of_decide_eq_true (by first | (with_reducible assumption) | assumption)
   have hcut127 := cut_from (P := Try.prog) 34 3 .i64 Try.underlying34 hi0127 1 hsz127 Ao126 x5_32.length co126 (ji111) q0127 q127
   have hr127 := Kd.C_drop (m := ((ji111) : Int).toNat) (c := co126) hC127 (by omega) hroom127
   obtain ⟨A127, hA127⟩ : ∃ A1, A1 = (if co126 = ((ji111) : Int).toNat then Ao126 else (Ao126 : Option Addr).map (·.add (((ji111) : Int).toNat * 1))) := ⟨_, rfl⟩
   obtain ⟨c127, hc127⟩ : ∃ c1, c1 = co126 - ((ji111) : Int).toNat := ⟨_, rfl⟩
   have hy127 : y177.length = x5_32.length - ((ji111) : Int).toNat := (by rw [Ny177.out, List.length_drop] <;> omega)
   rw [show (x5_32).drop ((ji111) : Int).toNat = y177 from Ny177.out.symm] at hr127
   replace hr127 : Kd.C (Kd.int .i64) _ A127 y177.length y177 := (by rw [hA127]; exact hr127)
   rw [← hy127, ← hA127, ← hc127] at hcut127
   have HR180 := Aside0.mk hr127
   have HC180 := Aside0.mk (show y177.length ≤ c127 from by rw [hy127, hc127]; exact Nat.sub_le_sub_right hroom127 _)
   clear hr127 hC127 hroom127 hi0127 hsz127 hc127
   have KY127 := Aside0.mk hy127
   have KA127 := Aside0.mk hA127
   clear hy127 hA127
   have KL127 := Aside0.mk (show ((ji111) : Int).toNat ≤ x5_32.length from by omega)
   replace q127 := eq_true q127
   refine start_ (n := 22) (S := fun w' => True) (ds := []) #[F_,F_,F_,F_,F_,F_,F_,F_,F_,F_,F_,F_,F_,F_,F_,F_,F_,F_,F_,F_,F_,F_] (by kernel_rfl) rfl rfl trivial (fun hHeld => ?_); refine with_tabW TP.tab37 TP.bits37 (fun HT_ HW_ => ?_)
   generalize wc.drew = w121 at HO_4 HO_5 BK116 HI114 HB HR156 HR163 HR173 HR180 hHeld ⊢
   refine pure_ (i := 1) (N := some 205) (v := ?_) (a' := ?_) #[F_,T_,F_,F_,F_,F_,F_,F_,F_,F_,F_,F_,F_,F_,F_,F_,F_,F_,F_,F_,F_,F_] rfl rfl (any_of HT_.out (by kernel_rfl)) (fun _ _ _ h => h) (Or.inl ⟨by rfl, ?_⟩) ?_ ?_
   rotate_left
   ·intro w'
    go_simp
    with_reducible rfl
   rotate_left
   ·simp only [Act.put, q1_, q2_, q3_, i64_w, i32_w]
    rfl
   refine pure_ (i := 2) (N := some 206) (v := ?_) (a' := ?_) #[F_,T_,T_,F_,F_,F_,F_,F_,F_,F_,F_,F_,F_,F_,F_,F_,F_,F_,F_,F_,F_,F_] rfl rfl (any_of HT_.out (by kernel_rfl)) (fun _ _ _ h => h) (Or.inl ⟨by rfl, ?_⟩) ?_ ?_
   rotate_left
   ·intro w'
    go_simp
    with_reducible rfl
   rotate_left
   ·simp only [Act.put, q1_, q2_, q3_, i64_w, i32_w]
    rfl
   refine pure_ (i := 3) (N := some 207) (v := ?_) (a' := ?_) #[F_,T_,T_,T_,F_,F_,F_,F_,F_,F_,F_,F_,F_,F_,F_,F_,F_,F_,F_,F_,F_,F_] rfl rfl (any_of HT_.out (by kernel_rfl)) (fun _ _ _ h => h) (Or.inl ⟨by rfl, ?_⟩) ?_ ?_
   rotate_left
   ·intro w'
    go_simp
    with_reducible rfl
   rotate_left
   ·simp only [Act.put, q1_, q2_, q3_, i64_w, i32_w]
    rfl
   refine pure_ (i := 5) (N := some 209) (v := ?_) (a' := ?_) #[F_,T_,T_,T_,F_,T_,F_,F_,F_,F_,F_,F_,F_,F_,F_,F_,F_,F_,F_,F_,F_,F_] rfl rfl (any_of HT_.out (by kernel_rfl)) (fun _ _ _ h => h) (Or.inl ⟨by rfl, ?_⟩) ?_ ?_
   rotate_left
   ·intro w'
    go_simp
    with_reducible rfl
   rotate_left
   ·simp only [Act.put, q1_, q2_, q3_, i64_w, i32_w]
    rfl
   refine pure_ (i := 6) (N := some 210) (v := ?_) (a' := ?_) #[F_,T_,T_,T_,F_,T_,T_,F_,F_,F_,F_,F_,F_,F_,F_,F_,F_,F_,F_,F_,F_,F_] rfl rfl (any_of HT_.out (by kernel_rfl)) (fun _ _ _ h => h) (Or.inl ⟨by rfl, ?_⟩) ?_ ?_
   rotate_left
   ·intro w'
    go_simp
    with_reducible rfl
   rotate_left
   ·simp only [Act.put, q1_, q2_, q3_, i64_w, i32_w]
    rfl
   refine pure_ (i := 7) (N := some 211) (v := ?_) (a' := ?_) #[F_,T_,T_,T_,F_,T_,T_,T_,F_,F_,F_,F_,F_,F_,F_,F_,F_,F_,F_,F_,F_,F_] rfl rfl (any_of HT_.out (by kernel_rfl)) (fun _ _ _ h => h) (Or.inl ⟨by rfl, ?_⟩) ?_ ?_
   rotate_left
   ·intro w'
    go_simp
    with_reducible rfl
   rotate_left
   ·simp only [Act.put, q1_, q2_, q3_, i64_w, i32_w]
    rfl
   refine pure_ (i := 8) (N := some 212) (v := ?_) (a' := ?_) #[F_,T_,T_,T_,F_,T_,T_,T_,T_,F_,F_,F_,F_,F_,F_,F_,F_,F_,F_,F_,F_,F_] rfl rfl (any_of HT_.out (by kernel_rfl)) (fun _ _ _ h => h) (Or.inl ⟨by rfl, ?_⟩) ?_ ?_
   rotate_left
   ·intro w'
    go_simp
    with_reducible rfl
   rotate_left
   ·simp only [Act.put, q1_, q2_, q3_, i64_w, i32_w]
    rfl
   refine pure_ (i := 11) (N := some 215) (v := ?_) (a' := ?_) #[F_,T_,T_,T_,F_,T_,T_,T_,T_,F_,F_,T_,F_,F_,F_,F_,F_,F_,F_,F_,F_,F_] rfl rfl (any_of HT_.out (by kernel_rfl)) (fun _ _ _ h => h) (Or.inl ⟨by rfl, ?_⟩) ?_ ?_
   rotate_left
   ·intro w'
    go_simp
    with_reducible rfl
   rotate_left
   ·simp only [Act.put, q1_, q2_, q3_, i64_w, i32_w]
    rfl
   refine pure_ (i := 12) (N := some 216) (v := ?_) (a' := ?_) #[F_,T_,T_,T_,F_,T_,T_,T_,T_,F_,F_,T_,T_,F_,F_,F_,F_,F_,F_,F_,F_,F_] rfl rfl (any_of HT_.out (by kernel_rfl)) (fun _ _ _ h => h) (Or.inl ⟨by rfl, ?_⟩) ?_ ?_
   rotate_left
   ·intro w'
    go_simp
    with_reducible rfl
   rotate_left
   ·simp only [Act.put, q1_, q2_, q3_, i64_w, i32_w]
    rfl
   refine pure_ (i := 13) (N := some 217) (v := ?_) (a' := ?_) #[F_,T_,T_,T_,F_,T_,T_,T_,T_,F_,F_,T_,T_,T_,F_,F_,F_,F_,F_,F_,F_,F_] rfl rfl (any_of HT_.out (by kernel_rfl)) (fun _ _ _ h => h) (Or.inl ⟨by rfl, ?_⟩) ?_ ?_
   rotate_left
   ·intro w'
    go_simp
    with_reducible rfl
   rotate_left
   ·simp only [Act.put, q1_, q2_, q3_, i64_w, i32_w]
    rfl
   refine pure_ (i := 15) (N := some 219) (v := ?_) (a' := ?_) #[F_,T_,T_,T_,F_,T_,T_,T_,T_,F_,F_,T_,T_,T_,F_,T_,F_,F_,F_,F_,F_,F_] rfl rfl (any_of HT_.out (by kernel_rfl)) (fun _ _ _ h => h) (Or.inl ⟨by rfl, ?_⟩) ?_ ?_
   rotate_left
   ·intro w'
    go_simp
    with_reducible rfl
   rotate_left
   ·simp only [Act.put, q1_, q2_, q3_, i64_w, i32_w]
    rfl
   refine pure_ (i := 16) (N := some 220) (v := ?_) (a' := ?_) #[F_,T_,T_,T_,F_,T_,T_,T_,T_,F_,F_,T_,T_,T_,F_,T_,T_,F_,F_,F_,F_,F_] rfl rfl (any_of HT_.out (by kernel_rfl)) (fun _ _ _ h => h) (Or.inl ⟨by rfl, ?_⟩) ?_ ?_
   rotate_left
   ·intro w'
    go_simp
    with_reducible rfl
   rotate_left
   ·simp only [Act.put, q1_, q2_, q3_, i64_w, i32_w]
    rfl
   refine pure_ (i := 17) (N := some 221) (v := ?_) (a' := ?_) #[F_,T_,T_,T_,F_,T_,T_,T_,T_,F_,F_,T_,T_,T_,F_,T_,T_,T_,F_,F_,F_,F_] rfl rfl (any_of HT_.out (by kernel_rfl)) (fun _ _ _ h => h) (Or.inl ⟨by rfl, ?_⟩) ?_ ?_
   rotate_left
   ·intro w'
    go_simp
    with_reducible rfl
   rotate_left
   ·simp only [Act.put, q1_, q2_, q3_, i64_w, i32_w]
    rfl
   refine pure_ (i := 18) (N := some 222) (v := ?_) (a' := ?_) #[F_,T_,T_,T_,F_,T_,T_,T_,T_,F_,F_,T_,T_,T_,F_,T_,T_,T_,T_,F_,F_,F_] rfl rfl (any_of HT_.out (by kernel_rfl)) (fun _ _ _ h => h) (Or.inl ⟨by rfl, ?_⟩) ?_ ?_
   rotate_left
   ·intro w'
    go_simp
    with_reducible rfl
   rotate_left
   ·simp only [Act.put, q1_, q2_, q3_, i64_w, i32_w]
    rfl
   refine join_ (σ := Value × Value × Value × Value) 4 #[T_,T_,T_,T_,T_,T_,T_,T_,T_,T_,T_,T_,T_,T_,F_,T_,T_,T_,T_,F_,F_,F_] (fun s_ => [(204, s_.1), (208, s_.2.1), (213, s_.2.2.1), (214, s_.2.2.2)]) (fun s_ w' => (Kd.R Kd.string 9 w' w.heap.size (fun k_ => some k_ ≠ (.slice Ao123 x4_32.length co123 : Value).ownBlock) s_.2.2.1 y164) ∧ (Kd.R (Kd.int .i64) 3 w' w.heap.size (fun k_ => some k_ ≠ (.slice Ao126 x5_32.length co126 : Value).ownBlock) s_.2.2.2 y167) ∧ (Kd.R Kd.string 9 w' w.heap.size (fun k_ => some k_ ≠ (s_.2.2.1 : Value).ownBlock) (.slice Ao123 x4_32.length co123) x4_32) ∧ (Kd.R (Kd.int .i64) 3 w' w.heap.size (fun k_ => some k_ ≠ (s_.2.2.2 : Value).ownBlock) (.slice Ao126 x5_32.length co126) x5_32) ∧ (w'.heap[gb116]? = some (.cells #[.int .i64 ((rd_T36 l0 x6_1).f0), .int .i64 ((rd_T36 l0 x6_1).f1), .string ((rd_T36 l0 x6_1).f2)] 36 (0, 0))) ∧ (Kd.C Kd.string w' Ao123 y153.length y153) ∧ (Kd.C Kd.string w' A124 y160.length y160) ∧ (Kd.C (Kd.int .i64) w' Ao126 y170.length y170) ∧ (Kd.C (Kd.int .i64) w' A127 y177.length y177) ∧ (IsS69 w w' g114 x115000_32) ∧ (Below w.heap.size w w')) ?_ ?_
   rotate_left
   ·intro hCont
    refine two_ (i := 0) (j := 10) (Ni := some 204) (Nj := some 214) #[T_,T_,T_,T_,F_,T_,T_,T_,T_,F_,F_,T_,T_,T_,F_,T_,T_,T_,T_,F_,F_,F_] #[F_,T_,T_,T_,F_,T_,T_,T_,T_,F_,T_,T_,T_,T_,F_,T_,T_,T_,T_,F_,F_,F_] rfl rfl rfl rfl (two_of HT_.out (by kernel_rfl)) (by decide) (by decide) (fun K hK => ?_) (fun K hK => ?_)
    ·skip
     refine Kd.R_lit_step Kd.string _ 9 ?hg (N := 204) ?hd (xs := ([] : List ByteArray)) (inner := []) (ok := fun _ => True) (okp := fun _ => True) ?hr ?hp (fun _ hk => hk) trivial (Below.refl _ _) (Nat.le_refl _) (by simp) ?_; (case hd => rfl); (case hg => rfl); (case hr => first | (go_simp; done) | (go_simp; rfl) | (go_simp; simp [IntKind.wrap_u8, IntKind.wrap_u32]; done)); (case hp => exact (Reps.none _ _))
     intro v151 w128 ho129 hb hg_ hnew_
     clear hg_ hnew_
     (first | rw [← Ny150.out] at ho129 | (simp only [Int.reduceToNat] at ho129; rw [← Ny150.out] at ho129))
     have n0_ := Aside0.mk (Kd.R_elder' (by (with_reducible repeat (first|apply Kd.R_alloc|apply Kd.R_drewN|apply Kd.R_drew)); exact HO_4.out) (Kd.R_base ho129) hb)
     have n1_ := Aside0.mk (Kd.R_below (by (with_reducible repeat (first|apply Kd.R_alloc|apply Kd.R_drewN|apply Kd.R_drew)); exact HO_5.out) hb)
     have n2_ := Aside0.mk (Kd.R_lower (Kd.R_new' ho129 (Kd.R_lt (by (with_reducible repeat (first|apply Kd.R_alloc|apply Kd.R_drewN|apply Kd.R_drew)); exact HO_4.out))) (below_size (by repeat (first | (with_reducible first | exact HB.out | apply below_alloc | apply pw_below_drewN | apply below_drew1 | refine below_set ?_ (IsS69.ge HI114.out) | refine below_set ?_ GE116.out) | exact HB.out))))
     have n3_ := Aside0.mk (blk_below (g := gb116) (o := .cells #[.int .i64 ((rd_T36 l0 x6_1).f0), .int .i64 ((rd_T36 l0 x6_1).f1), .string ((rd_T36 l0 x6_1).f2)] 36 (0, 0)) (by (with_reducible repeat (first | refine blk_drewN ?_ _ | refine blk_drew ?_ | refine blk_alloc ?_ _)); exact BK116.out) hb)
     have n4_ := Aside0.mk (IsS69.below (by repeat (first | (with_reducible first | exact HI114.out | apply IsS69.alloc | apply IsS69.drewN | apply IsS69.drew | refine IsS69.far ?_ (by (repeat (first | exact (Opq.NP.blk BK116.out (by decide)) | (with_reducible apply Opq.NP.setCell) | (with_reducible apply Opq.NP.drewN) | (with_reducible apply Opq.NP.drew) | (with_reducible apply Opq.NP.alloc))); done) _) | exact HI114.out)) hb)
     have n5_ := Aside0.mk (Kd.C_below (by repeat (first | (with_reducible exact HR156.out) | (with_reducible refine Kd.C_alloc ?_ _) | (with_reducible refine Kd.C_drewN ?_ _) | (with_reducible refine Kd.C_drew ?_) | exact HR156.out)) hb)
     have n6_ := Aside0.mk (Kd.C_below (by repeat (first | (with_reducible exact HR163.out) | (with_reducible refine Kd.C_alloc ?_ _) | (with_reducible refine Kd.C_drewN ?_ _) | (with_reducible refine Kd.C_drew ?_) | exact HR163.out)) hb)
     have n7_ := Aside0.mk (Kd.C_below (by repeat (first | (with_reducible exact HR173.out) | (with_reducible refine Kd.C_alloc ?_ _) | (with_reducible refine Kd.C_drewN ?_ _) | (with_reducible refine Kd.C_drew ?_) | exact HR173.out)) hb)
     have n8_ := Aside0.mk (Kd.C_below (by repeat (first | (with_reducible exact HR180.out) | (with_reducible refine Kd.C_alloc ?_ _) | (with_reducible refine Kd.C_drewN ?_ _) | (with_reducible refine Kd.C_drew ?_) | exact HR180.out)) hb)
     have n9_ := Aside0.mk (below_step (by repeat (first | (with_reducible first | exact HB.out | apply below_alloc | apply pw_below_drewN | apply below_drew1 | refine below_set ?_ (IsS69.ge HI114.out) | refine below_set ?_ GE116.out) | exact HB.out)) hb)
     clear HO_4 HO_5 BK116 HI114 HR156 HR163 HR173 HR180 HB
     have HO_4 := n0_; have HO_5 := n1_; have HO152 := n2_; have BK116 := n3_; have HI114 := n4_; have HR156 := n5_; have HR163 := n6_; have HR173 := n7_; have HR180 := n8_; have HB := n9_
     clear n0_ n1_ n2_ n3_ n4_ n5_ n6_ n7_ n8_ n9_ hb ho129
     refine hK.out _ _ trivial (fun hHeld => ?_)
     clear hK K
     refine norm_ (a' := ?_) ?_ ?_
     rotate_left
     ·show Act.put _ (some 204) _ = _
      simp only [Act.put, q1_, q2_, q3_, i64_w, i32_w]
      rfl
     refine two_ (i := 4) (j := 10) (Ni := some 208) (Nj := some 214) #[T_,T_,T_,T_,T_,T_,T_,T_,T_,F_,F_,T_,T_,T_,F_,T_,T_,T_,T_,F_,F_,F_] #[T_,T_,T_,T_,F_,T_,T_,T_,T_,F_,T_,T_,T_,T_,F_,T_,T_,T_,T_,F_,F_,F_] rfl rfl rfl rfl (two_of HT_.out (by kernel_rfl)) (by decide) (by decide) (fun K hK => ?_) (fun K hK => ?_)
     ·skip
      refine Kd.R_append_rows_step Kd.string (w0 := w) w.heap.size (by rfl) (.tmp 204) (.tmp 207) 33 9 (.string ⟨#[]⟩) 16 rfl Try.underlying33 info9 rfl (by decide) (by omega) v151 y150 y153 _ _ _ (fun k_ => some k_ ≠ (.slice Ao123 x4_32.length co123 : Value).ownBlock) (fun _ => False) rfl rfl ?aO ?aR (fun _ _ h => h) (fun _ h => h.elim) ?aF ?aB ?aS ?aL ?_
      (case aR => repeat (first | exact (by repeat (first | (with_reducible exact HR156.out) | (with_reducible refine Kd.C_alloc ?_ _) | (with_reducible refine Kd.C_drewN ?_ _) | (with_reducible refine Kd.C_drew ?_) | exact HR156.out)) | (with_reducible refine Kd.C_alloc ?_ _) | (with_reducible refine Kd.C_drewN ?_ _) | (with_reducible refine Kd.C_drew ?_)))
      (case aB => exact (by repeat (first | (with_reducible first | exact HB.out | apply below_alloc | apply pw_below_drewN | apply below_drew1 | refine below_set ?_ (IsS69.ge HI114.out) | refine below_set ?_ GE116.out) | exact HB.out)))
      (case aF => exact (fun k_ hk => Kd.fresh' (Kd.R_lt (by (with_reducible repeat (first|apply Kd.R_alloc|apply Kd.R_drewN|apply Kd.R_drew)); exact HO_4.out)) k_ hk))
      (case aO => exact (by (with_reducible repeat (first|apply Kd.R_alloc|apply Kd.R_drewN|apply Kd.R_drew)); exact Kd.R_mono HO152.out (fun _ hk => hk.2)))
      (case aS => exact (below_size (by repeat (first | (with_reducible first | exact HB.out | apply below_alloc | apply pw_below_drewN | apply below_drew1 | refine below_set ?_ (IsS69.ge HI114.out) | refine below_set ?_ GE116.out) | exact HB.out))))
      (case aL => have := LMc110.out; omega)
      intro v158 w130 ho hb hg hat
      rw [← Ny157.out] at ho
      have n0_ := Aside0.mk (Kd.R_after (ok := (fun _ => True)) (by (with_reducible repeat (first|apply Kd.R_alloc|apply Kd.R_drewN|apply Kd.R_drew)); exact HO_4.out) hg hat)
      have n1_ := Aside0.mk (Kd.R_over' (by (with_reducible repeat (first|apply Kd.R_alloc|apply Kd.R_drewN|apply Kd.R_drew)); exact HO_5.out) (Kd.R_typed (by (with_reducible repeat (first|apply Kd.R_alloc|apply Kd.R_drewN|apply Kd.R_drew)); exact HO152.out)) (by decide) hg)
      have n2_ := Aside0.mk (blk_grown (g := gb116) (o := .cells #[.int .i64 ((rd_T36 l0 x6_1).f0), .int .i64 ((rd_T36 l0 x6_1).f1), .string ((rd_T36 l0 x6_1).f2)] 36 (0, 0)) (by (with_reducible repeat (first | refine blk_drewN ?_ _ | refine blk_drew ?_ | refine blk_alloc ?_ _)); exact BK116.out) hg (Kd.R_ne HO152.out BK116.out (by decide)))
      have n3_ := Aside0.mk (IsS69.grown (by repeat (first | (with_reducible first | exact HI114.out | apply IsS69.alloc | apply IsS69.drewN | apply IsS69.drew | refine IsS69.far ?_ (by (repeat (first | exact (Opq.NP.blk BK116.out (by decide)) | (with_reducible apply Opq.NP.setCell) | (with_reducible apply Opq.NP.drewN) | (with_reducible apply Opq.NP.drew) | (with_reducible apply Opq.NP.alloc))); done) _) | exact HI114.out)) hg (by (repeat (first | exact (Opq.NPr.typed (Kd.R_typed HO152.out) (by decide)) | (with_reducible apply Opq.NPr.setCell) | (with_reducible apply Opq.NPr.drewN) | (with_reducible apply Opq.NPr.drew) | (with_reducible apply Opq.NPr.alloc))); done))
      have n4_ := Aside0.mk (hb)
      have n5_ := Aside0.mk ((show Kd.C Kd.string w130 Ao123 y153.length y153 from by rw [Ny153.out]; exact Kd.C_take (m := (x8_32 : Int).toNat) ((Kd.R_reads' (Kd.R_after (ok := (fun _ => True)) (by (with_reducible repeat (first|apply Kd.R_alloc|apply Kd.R_drewN|apply Kd.R_drew)); exact HO_4.out) hg hat)).2.2) KL122.out))
      have n6_ := Aside0.mk ((show Kd.C Kd.string w130 A124 y160.length y160 from by rw [Ny160.out, KA124.out]; exact Kd.C_drop (m := ((ji111) : Int).toNat) (c := co123) ((Kd.R_reads' (Kd.R_after (ok := (fun _ => True)) (by (with_reducible repeat (first|apply Kd.R_alloc|apply Kd.R_drewN|apply Kd.R_drew)); exact HO_4.out) hg hat)).2.2) KL124.out ((Kd.R_reads' (Kd.R_after (ok := (fun _ => True)) (by (with_reducible repeat (first|apply Kd.R_alloc|apply Kd.R_drewN|apply Kd.R_drew)); exact HO_4.out) hg hat)).2.1)))
      have n7_ := Aside0.mk ((show Kd.C (Kd.int .i64) w130 Ao126 y170.length y170 from by rw [Ny170.out]; exact Kd.C_take (m := (x8_32 : Int).toNat) ((Kd.R_reads' (Kd.R_over' (by (with_reducible repeat (first|apply Kd.R_alloc|apply Kd.R_drewN|apply Kd.R_drew)); exact HO_5.out) (Kd.R_typed (by (with_reducible repeat (first|apply Kd.R_alloc|apply Kd.R_drewN|apply Kd.R_drew)); exact HO152.out)) (by decide) hg)).2.2) KL125.out))
      have n8_ := Aside0.mk ((show Kd.C (Kd.int .i64) w130 A127 y177.length y177 from by rw [Ny177.out, KA127.out]; exact Kd.C_drop (m := ((ji111) : Int).toNat) (c := co126) ((Kd.R_reads' (Kd.R_over' (by (with_reducible repeat (first|apply Kd.R_alloc|apply Kd.R_drewN|apply Kd.R_drew)); exact HO_5.out) (Kd.R_typed (by (with_reducible repeat (first|apply Kd.R_alloc|apply Kd.R_drewN|apply Kd.R_drew)); exact HO152.out)) (by decide) hg)).2.2) KL127.out ((Kd.R_reads' (Kd.R_over' (by (with_reducible repeat (first|apply Kd.R_alloc|apply Kd.R_drewN|apply Kd.R_drew)); exact HO_5.out) (Kd.R_typed (by (with_reducible repeat (first|apply Kd.R_alloc|apply Kd.R_drewN|apply Kd.R_drew)); exact HO152.out)) (by decide) hg)).2.1)))
      have n9_ := Aside0.mk (ho)
      clear HO_4 HO_5 BK116 HI114 HB HR156 HR163 HR173 HR180 HO152
      have HO_4 := n0_; have HO_5 := n1_; have BK116 := n2_; have HI114 := n3_; have HB := n4_; have HR156 := n5_; have HR163 := n6_; have HR173 := n7_; have HR180 := n8_; have HO159 := n9_
      clear n0_ n1_ n2_ n3_ n4_ n5_ n6_ n7_ n8_ n9_ ho hb hg hat
      refine hK.out _ _ trivial (fun hHeld => ?_)
      clear hK K
      refine norm_ (a' := ?_) ?_ ?_
      rotate_left
      ·show Act.put _ (some 208) _ = _
       simp only [Act.put, q1_, q2_, q3_, i64_w, i32_w]
       rfl
      refine two_ (i := 9) (j := 10) (Ni := some 213) (Nj := some 214) #[T_,T_,T_,T_,T_,T_,T_,T_,T_,T_,F_,T_,T_,T_,F_,T_,T_,T_,T_,F_,F_,F_] #[T_,T_,T_,T_,T_,T_,T_,T_,T_,F_,T_,T_,T_,T_,F_,T_,T_,T_,T_,F_,F_,F_] rfl rfl rfl rfl (two_of HT_.out (by kernel_rfl)) (by decide) (by decide) (fun K hK => ?_) (fun K hK => ?_)
      ·skip
       refine Kd.R_append_rows_step Kd.string (w0 := w) w.heap.size (by rfl) (.tmp 208) (.tmp 212) 33 9 (.string ⟨#[]⟩) 16 rfl Try.underlying33 info9 rfl (by decide) (by omega) v158 y157 y160 _ _ _ (fun k_ => some k_ ≠ (.slice Ao123 x4_32.length co123 : Value).ownBlock) (fun _ => False) rfl rfl ?aO ?aR (fun _ _ h => h) (fun _ h => h.elim) ?aF ?aB ?aS ?aL ?_
       (case aR => repeat (first | exact (by repeat (first | (with_reducible exact HR163.out) | (with_reducible refine Kd.C_alloc ?_ _) | (with_reducible refine Kd.C_drewN ?_ _) | (with_reducible refine Kd.C_drew ?_) | exact HR163.out)) | (with_reducible refine Kd.C_alloc ?_ _) | (with_reducible refine Kd.C_drewN ?_ _) | (with_reducible refine Kd.C_drew ?_)))
       (case aB => exact (by repeat (first | (with_reducible first | exact HB.out | apply below_alloc | apply pw_below_drewN | apply below_drew1 | refine below_set ?_ (IsS69.ge HI114.out) | refine below_set ?_ GE116.out) | exact HB.out)))
       (case aF => exact (fun k_ hk => Kd.fresh' (Kd.R_lt (by (with_reducible repeat (first|apply Kd.R_alloc|apply Kd.R_drewN|apply Kd.R_drew)); exact HO_4.out)) k_ hk))
       (case aO => exact (by (with_reducible repeat (first|apply Kd.R_alloc|apply Kd.R_drewN|apply Kd.R_drew)); exact HO159.out))
       (case aS => exact (below_size (by repeat (first | (with_reducible first | exact HB.out | apply below_alloc | apply pw_below_drewN | apply below_drew1 | refine below_set ?_ (IsS69.ge HI114.out) | refine below_set ?_ GE116.out) | exact HB.out))))
       (case aL => have := LMc114.out; omega)
       intro v165 w131 ho hb hg hat
       rw [← Ny164.out] at ho
       have n0_ := Aside0.mk (Kd.R_after (ok := (fun _ => True)) (by (with_reducible repeat (first|apply Kd.R_alloc|apply Kd.R_drewN|apply Kd.R_drew)); exact HO_4.out) hg hat)
       have n1_ := Aside0.mk (Kd.R_over' (by (with_reducible repeat (first|apply Kd.R_alloc|apply Kd.R_drewN|apply Kd.R_drew)); exact HO_5.out) (Kd.R_typed (by (with_reducible repeat (first|apply Kd.R_alloc|apply Kd.R_drewN|apply Kd.R_drew)); exact HO159.out)) (by decide) hg)
       have n2_ := Aside0.mk (blk_grown (g := gb116) (o := .cells #[.int .i64 ((rd_T36 l0 x6_1).f0), .int .i64 ((rd_T36 l0 x6_1).f1), .string ((rd_T36 l0 x6_1).f2)] 36 (0, 0)) (by (with_reducible repeat (first | refine blk_drewN ?_ _ | refine blk_drew ?_ | refine blk_alloc ?_ _)); exact BK116.out) hg (Kd.R_ne HO159.out BK116.out (by decide)))
       have n3_ := Aside0.mk (IsS69.grown (by repeat (first | (with_reducible first | exact HI114.out | apply IsS69.alloc | apply IsS69.drewN | apply IsS69.drew | refine IsS69.far ?_ (by (repeat (first | exact (Opq.NP.blk BK116.out (by decide)) | (with_reducible apply Opq.NP.setCell) | (with_reducible apply Opq.NP.drewN) | (with_reducible apply Opq.NP.drew) | (with_reducible apply Opq.NP.alloc))); done) _) | exact HI114.out)) hg (by (repeat (first | exact (Opq.NPr.typed (Kd.R_typed HO159.out) (by decide)) | (with_reducible apply Opq.NPr.setCell) | (with_reducible apply Opq.NPr.drewN) | (with_reducible apply Opq.NPr.drew) | (with_reducible apply Opq.NPr.alloc))); done))
       have n4_ := Aside0.mk (hb)
       have n5_ := Aside0.mk ((show Kd.C Kd.string w131 Ao123 y153.length y153 from by rw [Ny153.out]; exact Kd.C_take (m := (x8_32 : Int).toNat) ((Kd.R_reads' (Kd.R_after (ok := (fun _ => True)) (by (with_reducible repeat (first|apply Kd.R_alloc|apply Kd.R_drewN|apply Kd.R_drew)); exact HO_4.out) hg hat)).2.2) KL122.out))
       have n6_ := Aside0.mk ((show Kd.C Kd.string w131 A124 y160.length y160 from by rw [Ny160.out, KA124.out]; exact Kd.C_drop (m := ((ji111) : Int).toNat) (c := co123) ((Kd.R_reads' (Kd.R_after (ok := (fun _ => True)) (by (with_reducible repeat (first|apply Kd.R_alloc|apply Kd.R_drewN|apply Kd.R_drew)); exact HO_4.out) hg hat)).2.2) KL124.out ((Kd.R_reads' (Kd.R_after (ok := (fun _ => True)) (by (with_reducible repeat (first|apply Kd.R_alloc|apply Kd.R_drewN|apply Kd.R_drew)); exact HO_4.out) hg hat)).2.1)))
       have n7_ := Aside0.mk ((show Kd.C (Kd.int .i64) w131 Ao126 y170.length y170 from by rw [Ny170.out]; exact Kd.C_take (m := (x8_32 : Int).toNat) ((Kd.R_reads' (Kd.R_over' (by (with_reducible repeat (first|apply Kd.R_alloc|apply Kd.R_drewN|apply Kd.R_drew)); exact HO_5.out) (Kd.R_typed (by (with_reducible repeat (first|apply Kd.R_alloc|apply Kd.R_drewN|apply Kd.R_drew)); exact HO159.out)) (by decide) hg)).2.2) KL125.out))
       have n8_ := Aside0.mk ((show Kd.C (Kd.int .i64) w131 A127 y177.length y177 from by rw [Ny177.out, KA127.out]; exact Kd.C_drop (m := ((ji111) : Int).toNat) (c := co126) ((Kd.R_reads' (Kd.R_over' (by (with_reducible repeat (first|apply Kd.R_alloc|apply Kd.R_drewN|apply Kd.R_drew)); exact HO_5.out) (Kd.R_typed (by (with_reducible repeat (first|apply Kd.R_alloc|apply Kd.R_drewN|apply Kd.R_drew)); exact HO159.out)) (by decide) hg)).2.2) KL127.out ((Kd.R_reads' (Kd.R_over' (by (with_reducible repeat (first|apply Kd.R_alloc|apply Kd.R_drewN|apply Kd.R_drew)); exact HO_5.out) (Kd.R_typed (by (with_reducible repeat (first|apply Kd.R_alloc|apply Kd.R_drewN|apply Kd.R_drew)); exact HO159.out)) (by decide) hg)).2.1)))
       have n9_ := Aside0.mk (ho)
       clear HO_4 HO_5 BK116 HI114 HB HR156 HR163 HR173 HR180 HO159
       have HO_4 := n0_; have HO_5 := n1_; have BK116 := n2_; have HI114 := n3_; have HB := n4_; have HR156 := n5_; have HR163 := n6_; have HR173 := n7_; have HR180 := n8_; have HO166 := n9_
       clear n0_ n1_ n2_ n3_ n4_ n5_ n6_ n7_ n8_ n9_ ho hb hg hat
       refine hK.out _ _ trivial (fun hHeld => ?_)
       clear hK K
       refine norm_ (a' := ?_) ?_ ?_
       rotate_left
       ·show Act.put _ (some 213) _ = _
        simp only [Act.put, q1_, q2_, q3_, i64_w, i32_w]
        rfl
       refine one_ (i := 10) (N := some 214) #[T_,T_,T_,T_,T_,T_,T_,T_,T_,T_,T_,T_,T_,T_,F_,T_,T_,T_,T_,F_,F_,F_] rfl rfl (one_of HT_.out (by kernel_rfl)) (by decide) (fun K hK => ?_)
       refine Kd.R_lit_step (Kd.int .i64) _ 3 ?hg (N := 214) ?hd (xs := ([] : List Int)) (inner := []) (ok := fun _ => True) (okp := fun _ => True) ?hr ?hp (fun _ hk => hk) trivial (Below.refl _ _) (Nat.le_refl _) (by simp) ?_; (case hd => rfl); (case hg => rfl); (case hr => first | (go_simp; done) | (go_simp; rfl) | (go_simp; simp [IntKind.wrap_u8, IntKind.wrap_u32]; done)); (case hp => exact (Reps.none _ _))
       intro v168 w132 ho133 hb hg_ hnew_
       clear hg_ hnew_
       (first | rw [← Ny167.out] at ho133 | (simp only [Int.reduceToNat] at ho133; rw [← Ny167.out] at ho133))
       have n0_ := Aside0.mk (Kd.R_below (by (with_reducible repeat (first|apply Kd.R_alloc|apply Kd.R_drewN|apply Kd.R_drew)); exact HO_4.out) hb)
       have n1_ := Aside0.mk (Kd.R_elder' (by (with_reducible repeat (first|apply Kd.R_alloc|apply Kd.R_drewN|apply Kd.R_drew)); exact HO_5.out) (Kd.R_base ho133) hb)
       have n2_ := Aside0.mk (Kd.R_below (by (with_reducible repeat (first|apply Kd.R_alloc|apply Kd.R_drewN|apply Kd.R_drew)); exact HO166.out) hb)
       have n3_ := Aside0.mk (Kd.R_lower (Kd.R_new' ho133 (Kd.R_lt (by (with_reducible repeat (first|apply Kd.R_alloc|apply Kd.R_drewN|apply Kd.R_drew)); exact HO_5.out))) (below_size (by repeat (first | (with_reducible first | exact HB.out | apply below_alloc | apply pw_below_drewN | apply below_drew1 | refine below_set ?_ (IsS69.ge HI114.out) | refine below_set ?_ GE116.out) | exact HB.out))))
       have n4_ := Aside0.mk (blk_below (g := gb116) (o := .cells #[.int .i64 ((rd_T36 l0 x6_1).f0), .int .i64 ((rd_T36 l0 x6_1).f1), .string ((rd_T36 l0 x6_1).f2)] 36 (0, 0)) (by (with_reducible repeat (first | refine blk_drewN ?_ _ | refine blk_drew ?_ | refine blk_alloc ?_ _)); exact BK116.out) hb)
       have n5_ := Aside0.mk (IsS69.below (by repeat (first | (with_reducible first | exact HI114.out | apply IsS69.alloc | apply IsS69.drewN | apply IsS69.drew | refine IsS69.far ?_ (by (repeat (first | exact (Opq.NP.blk BK116.out (by decide)) | (with_reducible apply Opq.NP.setCell) | (with_reducible apply Opq.NP.drewN) | (with_reducible apply Opq.NP.drew) | (with_reducible apply Opq.NP.alloc))); done) _) | exact HI114.out)) hb)
       have n6_ := Aside0.mk (Kd.C_below (by repeat (first | (with_reducible exact HR156.out) | (with_reducible refine Kd.C_alloc ?_ _) | (with_reducible refine Kd.C_drewN ?_ _) | (with_reducible refine Kd.C_drew ?_) | exact HR156.out)) hb)
       have n7_ := Aside0.mk (Kd.C_below (by repeat (first | (with_reducible exact HR163.out) | (with_reducible refine Kd.C_alloc ?_ _) | (with_reducible refine Kd.C_drewN ?_ _) | (with_reducible refine Kd.C_drew ?_) | exact HR163.out)) hb)
       have n8_ := Aside0.mk (Kd.C_below (by repeat (first | (with_reducible exact HR173.out) | (with_reducible refine Kd.C_alloc ?_ _) | (with_reducible refine Kd.C_drewN ?_ _) | (with_reducible refine Kd.C_drew ?_) | exact HR173.out)) hb)
       have n9_ := Aside0.mk (Kd.C_below (by repeat (first | (with_reducible exact HR180.out) | (with_reducible refine Kd.C_alloc ?_ _) | (with_reducible refine Kd.C_drewN ?_ _) | (with_reducible refine Kd.C_drew ?_) | exact HR180.out)) hb)
       have n10_ := Aside0.mk (below_step (by repeat (first | (with_reducible first | exact HB.out | apply below_alloc | apply pw_below_drewN | apply below_drew1 | refine below_set ?_ (IsS69.ge HI114.out) | refine below_set ?_ GE116.out) | exact HB.out)) hb)
       clear HO_4 HO_5 HO166 BK116 HI114 HR156 HR163 HR173 HR180 HB
       have HO_4 := n0_; have HO_5 := n1_; have HO166 := n2_; have HO169 := n3_; have BK116 := n4_; have HI114 := n5_; have HR156 := n6_; have HR163 := n7_; have HR173 := n8_; have HR180 := n9_; have HB := n10_
       clear n0_ n1_ n2_ n3_ n4_ n5_ n6_ n7_ n8_ n9_ n10_ hb ho133
       refine hK.out _ _ trivial (fun hHeld => ?_)
       clear hK K
       refine norm_ (a' := ?_) ?_ ?_
       rotate_left
       ·show Act.put _ (some 214) _ = _
        simp only [Act.put, q1_, q2_, q3_, i64_w, i32_w]
        rfl
       exact norm_ (by simp only [putAll, Act.put, List.setIfInBounds_toArray, List.set_cons_zero, List.set_cons_succ]) (hCont (v151, v158, v165, v168) _ ⟨(by (with_reducible repeat (first|apply Kd.R_alloc|apply Kd.R_drewN|apply Kd.R_drew)); exact HO166.out), (by (with_reducible repeat (first|apply Kd.R_alloc|apply Kd.R_drewN|apply Kd.R_drew)); exact Kd.R_mono HO169.out (fun _ hk => hk.2)), (by (with_reducible repeat (first|apply Kd.R_alloc|apply Kd.R_drewN|apply Kd.R_drew)); exact Kd.R_mono HO_4.out (fun _ hk => hk.2)), (by (with_reducible repeat (first|apply Kd.R_alloc|apply Kd.R_drewN|apply Kd.R_drew)); exact Kd.R_mono HO_5.out (fun _ hk => hk.2)), (by (with_reducible repeat (first | refine blk_drewN ?_ _ | refine blk_drew ?_ | refine blk_alloc ?_ _)); exact BK116.out), (by repeat (first | (with_reducible exact HR156.out) | (with_reducible refine Kd.C_alloc ?_ _) | (with_reducible refine Kd.C_drewN ?_ _) | (with_reducible refine Kd.C_drew ?_) | exact HR156.out)), (by repeat (first | (with_reducible exact HR163.out) | (with_reducible refine Kd.C_alloc ?_ _) | (with_reducible refine Kd.C_drewN ?_ _) | (with_reducible refine Kd.C_drew ?_) | exact HR163.out)), (by repeat (first | (with_reducible exact HR173.out) | (with_reducible refine Kd.C_alloc ?_ _) | (with_reducible refine Kd.C_drewN ?_ _) | (with_reducible refine Kd.C_drew ?_) | exact HR173.out)), (by repeat (first | (with_reducible exact HR180.out) | (with_reducible refine Kd.C_alloc ?_ _) | (with_reducible refine Kd.C_drewN ?_ _) | (with_reducible refine Kd.C_drew ?_) | exact HR180.out)), (by repeat (first | (with_reducible first | exact HI114.out | apply IsS69.alloc | apply IsS69.drewN | apply IsS69.drew | refine IsS69.far ?_ (by (repeat (first | exact (Opq.NP.blk BK116.out (by decide)) | (with_reducible apply Opq.NP.setCell) | (with_reducible apply Opq.NP.drewN) | (with_reducible apply Opq.NP.drew) | (with_reducible apply Opq.NP.alloc))); done) _) | exact HI114.out)), (by repeat (first | (with_reducible first | exact HB.out | apply below_alloc | apply pw_below_drewN | apply below_drew1 | refine below_set ?_ (IsS69.ge HI114.out) | refine below_set ?_ GE116.out) | exact HB.out))⟩)
      skip
      refine Kd.R_lit_step (Kd.int .i64) _ 3 ?hg (N := 214) ?hd (xs := ([] : List Int)) (inner := []) (ok := fun _ => True) (okp := fun _ => True) ?hr ?hp (fun _ hk => hk) trivial (Below.refl _ _) (Nat.le_refl _) (by simp) ?_; (case hd => rfl); (case hg => rfl); (case hr => first | (go_simp; done) | (go_simp; rfl) | (go_simp; simp [IntKind.wrap_u8, IntKind.wrap_u32]; done)); (case hp => exact (Reps.none _ _))
      intro v168 w131 ho132 hb hg_ hnew_
      clear hg_ hnew_
      (first | rw [← Ny167.out] at ho132 | (simp only [Int.reduceToNat] at ho132; rw [← Ny167.out] at ho132))
      have n0_ := Aside0.mk (Kd.R_below (by (with_reducible repeat (first|apply Kd.R_alloc|apply Kd.R_drewN|apply Kd.R_drew)); exact HO_4.out) hb)
      have n1_ := Aside0.mk (Kd.R_elder' (by (with_reducible repeat (first|apply Kd.R_alloc|apply Kd.R_drewN|apply Kd.R_drew)); exact HO_5.out) (Kd.R_base ho132) hb)
      have n2_ := Aside0.mk (Kd.R_below (by (with_reducible repeat (first|apply Kd.R_alloc|apply Kd.R_drewN|apply Kd.R_drew)); exact HO159.out) hb)
      have n3_ := Aside0.mk (Kd.R_lower (Kd.R_new' ho132 (Kd.R_lt (by (with_reducible repeat (first|apply Kd.R_alloc|apply Kd.R_drewN|apply Kd.R_drew)); exact HO_5.out))) (below_size (by repeat (first | (with_reducible first | exact HB.out | apply below_alloc | apply pw_below_drewN | apply below_drew1 | refine below_set ?_ (IsS69.ge HI114.out) | refine below_set ?_ GE116.out) | exact HB.out))))
      have n4_ := Aside0.mk (blk_below (g := gb116) (o := .cells #[.int .i64 ((rd_T36 l0 x6_1).f0), .int .i64 ((rd_T36 l0 x6_1).f1), .string ((rd_T36 l0 x6_1).f2)] 36 (0, 0)) (by (with_reducible repeat (first | refine blk_drewN ?_ _ | refine blk_drew ?_ | refine blk_alloc ?_ _)); exact BK116.out) hb)
      have n5_ := Aside0.mk (IsS69.below (by repeat (first | (with_reducible first | exact HI114.out | apply IsS69.alloc | apply IsS69.drewN | apply IsS69.drew | refine IsS69.far ?_ (by (repeat (first | exact (Opq.NP.blk BK116.out (by decide)) | (with_reducible apply Opq.NP.setCell) | (with_reducible apply Opq.NP.drewN) | (with_reducible apply Opq.NP.drew) | (with_reducible apply Opq.NP.alloc))); done) _) | exact HI114.out)) hb)
      have n6_ := Aside0.mk (Kd.C_below (by repeat (first | (with_reducible exact HR156.out) | (with_reducible refine Kd.C_alloc ?_ _) | (with_reducible refine Kd.C_drewN ?_ _) | (with_reducible refine Kd.C_drew ?_) | exact HR156.out)) hb)
      have n7_ := Aside0.mk (Kd.C_below (by repeat (first | (with_reducible exact HR163.out) | (with_reducible refine Kd.C_alloc ?_ _) | (with_reducible refine Kd.C_drewN ?_ _) | (with_reducible refine Kd.C_drew ?_) | exact HR163.out)) hb)
      have n8_ := Aside0.mk (Kd.C_below (by repeat (first | (with_reducible exact HR173.out) | (with_reducible refine Kd.C_alloc ?_ _) | (with_reducible refine Kd.C_drewN ?_ _) | (with_reducible refine Kd.C_drew ?_) | exact HR173.out)) hb)
      have n9_ := Aside0.mk (Kd.C_below (by repeat (first | (with_reducible exact HR180.out) | (with_reducible refine Kd.C_alloc ?_ _) | (with_reducible refine Kd.C_drewN ?_ _) | (with_reducible refine Kd.C_drew ?_) | exact HR180.out)) hb)
      have n10_ := Aside0.mk (below_step (by repeat (first | (with_reducible first | exact HB.out | apply below_alloc | apply pw_below_drewN | apply below_drew1 | refine below_set ?_ (IsS69.ge HI114.out) | refine below_set ?_ GE116.out) | exact HB.out)) hb)
      clear HO_4 HO_5 HO159 BK116 HI114 HR156 HR163 HR173 HR180 HB
      have HO_4 := n0_; have HO_5 := n1_; have HO159 := n2_; have HO169 := n3_; have BK116 := n4_; have HI114 := n5_; have HR156 := n6_; have HR163 := n7_; have HR173 := n8_; have HR180 := n9_; have HB := n10_
      clear n0_ n1_ n2_ n3_ n4_ n5_ n6_ n7_ n8_ n9_ n10_ hb ho132
      refine hK.out _ _ trivial (fun hHeld => ?_)
      clear hK K
      refine norm_ (a' := ?_) ?_ ?_
      rotate_left
      ·show Act.put _ (some 214) _ = _
       simp only [Act.put, q1_, q2_, q3_, i64_w, i32_w]
       rfl
      refine one_ (i := 9) (N := some 213) #[T_,T_,T_,T_,T_,T_,T_,T_,T_,T_,T_,T_,T_,T_,F_,T_,T_,T_,T_,F_,F_,F_] rfl rfl (one_of HT_.out (by kernel_rfl)) (by decide) (fun K hK => ?_)
      refine Kd.R_append_rows_step Kd.string (w0 := w) w.heap.size (by rfl) (.tmp 208) (.tmp 212) 33 9 (.string ⟨#[]⟩) 16 rfl Try.underlying33 info9 rfl (by decide) (by omega) v158 y157 y160 _ _ _ (fun k_ => some k_ ≠ (.slice Ao123 x4_32.length co123 : Value).ownBlock) (fun _ => False) rfl rfl ?aO ?aR (fun _ _ h => h) (fun _ h => h.elim) ?aF ?aB ?aS ?aL ?_
      (case aR => repeat (first | exact (by repeat (first | (with_reducible exact HR163.out) | (with_reducible refine Kd.C_alloc ?_ _) | (with_reducible refine Kd.C_drewN ?_ _) | (with_reducible refine Kd.C_drew ?_) | exact HR163.out)) | (with_reducible refine Kd.C_alloc ?_ _) | (with_reducible refine Kd.C_drewN ?_ _) | (with_reducible refine Kd.C_drew ?_)))
      (case aB => exact (by repeat (first | (with_reducible first | exact HB.out | apply below_alloc | apply pw_below_drewN | apply below_drew1 | refine below_set ?_ (IsS69.ge HI114.out) | refine below_set ?_ GE116.out) | exact HB.out)))
      (case aF => exact (fun k_ hk => Kd.fresh' (Kd.R_lt (by (with_reducible repeat (first|apply Kd.R_alloc|apply Kd.R_drewN|apply Kd.R_drew)); exact HO_4.out)) k_ hk))
      (case aO => exact (by (with_reducible repeat (first|apply Kd.R_alloc|apply Kd.R_drewN|apply Kd.R_drew)); exact HO159.out))
      (case aS => exact (below_size (by repeat (first | (with_reducible first | exact HB.out | apply below_alloc | apply pw_below_drewN | apply below_drew1 | refine below_set ?_ (IsS69.ge HI114.out) | refine below_set ?_ GE116.out) | exact HB.out))))
      (case aL => have := LMc114.out; omega)
      intro v165 w133 ho hb hg hat
      rw [← Ny164.out] at ho
      have n0_ := Aside0.mk (Kd.R_after (ok := (fun _ => True)) (by (with_reducible repeat (first|apply Kd.R_alloc|apply Kd.R_drewN|apply Kd.R_drew)); exact HO_4.out) hg hat)
      have n1_ := Aside0.mk (Kd.R_over' (by (with_reducible repeat (first|apply Kd.R_alloc|apply Kd.R_drewN|apply Kd.R_drew)); exact HO_5.out) (Kd.R_typed (by (with_reducible repeat (first|apply Kd.R_alloc|apply Kd.R_drewN|apply Kd.R_drew)); exact HO159.out)) (by decide) hg)
      have n2_ := Aside0.mk (blk_grown (g := gb116) (o := .cells #[.int .i64 ((rd_T36 l0 x6_1).f0), .int .i64 ((rd_T36 l0 x6_1).f1), .string ((rd_T36 l0 x6_1).f2)] 36 (0, 0)) (by (with_reducible repeat (first | refine blk_drewN ?_ _ | refine blk_drew ?_ | refine blk_alloc ?_ _)); exact BK116.out) hg (Kd.R_ne HO159.out BK116.out (by decide)))
      have n3_ := Aside0.mk (IsS69.grown (by repeat (first | (with_reducible first | exact HI114.out | apply IsS69.alloc | apply IsS69.drewN | apply IsS69.drew | refine IsS69.far ?_ (by (repeat (first | exact (Opq.NP.blk BK116.out (by decide)) | (with_reducible apply Opq.NP.setCell) | (with_reducible apply Opq.NP.drewN) | (with_reducible apply Opq.NP.drew) | (with_reducible apply Opq.NP.alloc))); done) _) | exact HI114.out)) hg (by (repeat (first | exact (Opq.NPr.typed (Kd.R_typed HO159.out) (by decide)) | (with_reducible apply Opq.NPr.setCell) | (with_reducible apply Opq.NPr.drewN) | (with_reducible apply Opq.NPr.drew) | (with_reducible apply Opq.NPr.alloc))); done))
      have n4_ := Aside0.mk (Kd.R_over' (by (with_reducible repeat (first|apply Kd.R_alloc|apply Kd.R_drewN|apply Kd.R_drew)); exact HO169.out) (Kd.R_typed (by (with_reducible repeat (first|apply Kd.R_alloc|apply Kd.R_drewN|apply Kd.R_drew)); exact HO159.out)) (by decide) hg)
      have n5_ := Aside0.mk (hb)
      have n6_ := Aside0.mk ((show Kd.C Kd.string w133 Ao123 y153.length y153 from by rw [Ny153.out]; exact Kd.C_take (m := (x8_32 : Int).toNat) ((Kd.R_reads' (Kd.R_after (ok := (fun _ => True)) (by (with_reducible repeat (first|apply Kd.R_alloc|apply Kd.R_drewN|apply Kd.R_drew)); exact HO_4.out) hg hat)).2.2) KL122.out))
      have n7_ := Aside0.mk ((show Kd.C Kd.string w133 A124 y160.length y160 from by rw [Ny160.out, KA124.out]; exact Kd.C_drop (m := ((ji111) : Int).toNat) (c := co123) ((Kd.R_reads' (Kd.R_after (ok := (fun _ => True)) (by (with_reducible repeat (first|apply Kd.R_alloc|apply Kd.R_drewN|apply Kd.R_drew)); exact HO_4.out) hg hat)).2.2) KL124.out ((Kd.R_reads' (Kd.R_after (ok := (fun _ => True)) (by (with_reducible repeat (first|apply Kd.R_alloc|apply Kd.R_drewN|apply Kd.R_drew)); exact HO_4.out) hg hat)).2.1)))
      have n8_ := Aside0.mk ((show Kd.C (Kd.int .i64) w133 Ao126 y170.length y170 from by rw [Ny170.out]; exact Kd.C_take (m := (x8_32 : Int).toNat) ((Kd.R_reads' (Kd.R_over' (by (with_reducible repeat (first|apply Kd.R_alloc|apply Kd.R_drewN|apply Kd.R_drew)); exact HO_5.out) (Kd.R_typed (by (with_reducible repeat (first|apply Kd.R_alloc|apply Kd.R_drewN|apply Kd.R_drew)); exact HO159.out)) (by decide) hg)).2.2) KL125.out))
      have n9_ := Aside0.mk ((show Kd.C (Kd.int .i64) w133 A127 y177.length y177 from by rw [Ny177.out, KA127.out]; exact Kd.C_drop (m := ((ji111) : Int).toNat) (c := co126) ((Kd.R_reads' (Kd.R_over' (by (with_reducible repeat (first|apply Kd.R_alloc|apply Kd.R_drewN|apply Kd.R_drew)); exact HO_5.out) (Kd.R_typed (by (with_reducible repeat (first|apply Kd.R_alloc|apply Kd.R_drewN|apply Kd.R_drew)); exact HO159.out)) (by decide) hg)).2.2) KL127.out ((Kd.R_reads' (Kd.R_over' (by (with_reducible repeat (first|apply Kd.R_alloc|apply Kd.R_drewN|apply Kd.R_drew)); exact HO_5.out) (Kd.R_typed (by (with_reducible repeat (first|apply Kd.R_alloc|apply Kd.R_drewN|apply Kd.R_drew)); exact HO159.out)) (by decide) hg)).2.1)))
      have n10_ := Aside0.mk (ho)
      clear HO_4 HO_5 BK116 HI114 HO169 HB HR156 HR163 HR173 HR180 HO159
      have HO_4 := n0_; have HO_5 := n1_; have BK116 := n2_; have HI114 := n3_; have HO169 := n4_; have HB := n5_; have HR156 := n6_; have HR163 := n7_; have HR173 := n8_; have HR180 := n9_; have HO166 := n10_
      clear n0_ n1_ n2_ n3_ n4_ n5_ n6_ n7_ n8_ n9_ n10_ ho hb hg hat
      refine hK.out _ _ trivial (fun hHeld => ?_)
      clear hK K
      refine norm_ (a' := ?_) ?_ ?_
      rotate_left
      ·show Act.put _ (some 213) _ = _
       simp only [Act.put, q1_, q2_, q3_, i64_w, i32_w]
       rfl
      exact norm_ (by simp only [putAll, Act.put, List.setIfInBounds_toArray, List.set_cons_zero, List.set_cons_succ]) (hCont (v151, v158, v165, v168) _ ⟨(by (with_reducible repeat (first|apply Kd.R_alloc|apply Kd.R_drewN|apply Kd.R_drew)); exact HO166.out), (by (with_reducible repeat (first|apply Kd.R_alloc|apply Kd.R_drewN|apply Kd.R_drew)); exact Kd.R_mono HO169.out (fun _ hk => hk.2)), (by (with_reducible repeat (first|apply Kd.R_alloc|apply Kd.R_drewN|apply Kd.R_drew)); exact Kd.R_mono HO_4.out (fun _ hk => hk.2)), (by (with_reducible repeat (first|apply Kd.R_alloc|apply Kd.R_drewN|apply Kd.R_drew)); exact Kd.R_mono HO_5.out (fun _ hk => hk.2)), (by (with_reducible repeat (first | refine blk_drewN ?_ _ | refine blk_drew ?_ | refine blk_alloc ?_ _)); exact BK116.out), (by repeat (first | (with_reducible exact HR156.out) | (with_reducible refine Kd.C_alloc ?_ _) | (with_reducible refine Kd.C_drewN ?_ _) | (with_reducible refine Kd.C_drew ?_) | exact HR156.out)), (by repeat (first | (with_reducible exact HR163.out) | (with_reducible refine Kd.C_alloc ?_ _) | (with_reducible refine Kd.C_drewN ?_ _) | (with_reducible refine Kd.C_drew ?_) | exact HR163.out)), (by repeat (first | (with_reducible exact HR173.out) | (with_reducible refine Kd.C_alloc ?_ _) | (with_reducible refine Kd.C_drewN ?_ _) | (with_reducible refine Kd.C_drew ?_) | exact HR173.out)), (by repeat (first | (with_reducible exact HR180.out) | (with_reducible refine Kd.C_alloc ?_ _) | (with_reducible refine Kd.C_drewN ?_ _) | (with_reducible refine Kd.C_drew ?_) | exact HR180.out)), (by repeat (first | (with_reducible first | exact HI114.out | apply IsS69.alloc | apply IsS69.drewN | apply IsS69.drew | refine IsS69.far ?_ (by (repeat (first | exact (Opq.NP.blk BK116.out (by decide)) | (with_reducible apply Opq.NP.setCell) | (with_reducible apply Opq.NP.drewN) | (with_reducible apply Opq.NP.drew) | (with_reducible apply Opq.NP.alloc))); done) _) | exact HI114.out)), (by repeat (first | (with_reducible first | exact HB.out | apply below_alloc | apply pw_below_drewN | apply below_drew1 | refine below_set ?_ (IsS69.ge HI114.out) | refine below_set ?_ GE116.out) | exact HB.out))⟩)
     skip
     refine Kd.R_lit_step (Kd.int .i64) _ 3 ?hg (N := 214) ?hd (xs := ([] : List Int)) (inner := []) (ok := fun _ => True) (okp := fun _ => True) ?hr ?hp (fun _ hk => hk) trivial (Below.refl _ _) (Nat.le_refl _) (by simp) ?_; (case hd => rfl); (case hg => rfl); (case hr => first | (go_simp; done) | (go_simp; rfl) | (go_simp; simp [IntKind.wrap_u8, IntKind.wrap_u32]; done)); (case hp => exact (Reps.none _ _))
     intro v168 w130 ho131 hb hg_ hnew_
     clear hg_ hnew_
     (first | rw [← Ny167.out] at ho131 | (simp only [Int.reduceToNat] at ho131; rw [← Ny167.out] at ho131))
     have n0_ := Aside0.mk (Kd.R_below (by (with_reducible repeat (first|apply Kd.R_alloc|apply Kd.R_drewN|apply Kd.R_drew)); exact HO_4.out) hb)
     have n1_ := Aside0.mk (Kd.R_elder' (by (with_reducible repeat (first|apply Kd.R_alloc|apply Kd.R_drewN|apply Kd.R_drew)); exact HO_5.out) (Kd.R_base ho131) hb)
     have n2_ := Aside0.mk (Kd.R_below (by (with_reducible repeat (first|apply Kd.R_alloc|apply Kd.R_drewN|apply Kd.R_drew)); exact HO152.out) hb)
     have n3_ := Aside0.mk (Kd.R_lower (Kd.R_new' ho131 (Kd.R_lt (by (with_reducible repeat (first|apply Kd.R_alloc|apply Kd.R_drewN|apply Kd.R_drew)); exact HO_5.out))) (below_size (by repeat (first | (with_reducible first | exact HB.out | apply below_alloc | apply pw_below_drewN | apply below_drew1 | refine below_set ?_ (IsS69.ge HI114.out) | refine below_set ?_ GE116.out) | exact HB.out))))
     have n4_ := Aside0.mk (blk_below (g := gb116) (o := .cells #[.int .i64 ((rd_T36 l0 x6_1).f0), .int .i64 ((rd_T36 l0 x6_1).f1), .string ((rd_T36 l0 x6_1).f2)] 36 (0, 0)) (by (with_reducible repeat (first | refine blk_drewN ?_ _ | refine blk_drew ?_ | refine blk_alloc ?_ _)); exact BK116.out) hb)
     have n5_ := Aside0.mk (IsS69.below (by repeat (first | (with_reducible first | exact HI114.out | apply IsS69.alloc | apply IsS69.drewN | apply IsS69.drew | refine IsS69.far ?_ (by (repeat (first | exact (Opq.NP.blk BK116.out (by decide)) | (with_reducible apply Opq.NP.setCell) | (with_reducible apply Opq.NP.drewN) | (with_reducible apply Opq.NP.drew) | (with_reducible apply Opq.NP.alloc))); done) _) | exact HI114.out)) hb)
     have n6_ := Aside0.mk (Kd.C_below (by repeat (first | (with_reducible exact HR156.out) | (with_reducible refine Kd.C_alloc ?_ _) | (with_reducible refine Kd.C_drewN ?_ _) | (with_reducible refine Kd.C_drew ?_) | exact HR156.out)) hb)
     have n7_ := Aside0.mk (Kd.C_below (by repeat (first | (with_reducible exact HR163.out) | (with_reducible refine Kd.C_alloc ?_ _) | (with_reducible refine Kd.C_drewN ?_ _) | (with_reducible refine Kd.C_drew ?_) | exact HR163.out)) hb)
     have n8_ := Aside0.mk (Kd.C_below (by repeat (first | (with_reducible exact HR173.out) | (with_reducible refine Kd.C_alloc ?_ _) | (with_reducible refine Kd.C_drewN ?_ _) | (with_reducible refine Kd.C_drew ?_) | exact HR173.out)) hb)
     have n9_ := Aside0.mk (Kd.C_below (by repeat (first | (with_reducible exact HR180.out) | (with_reducible refine Kd.C_alloc ?_ _) | (with_reducible refine Kd.C_drewN ?_ _) | (with_reducible refine Kd.C_drew ?_) | exact HR180.out)) hb)
     have n10_ := Aside0.mk (below_step (by repeat (first | (with_reducible first | exact HB.out | apply below_alloc | apply pw_below_drewN | apply below_drew1 | refine below_set ?_ (IsS69.ge HI114.out) | refine below_set ?_ GE116.out) | exact HB.out)) hb)
     clear HO_4 HO_5 HO152 BK116 HI114 HR156 HR163 HR173 HR180 HB
     have HO_4 := n0_; have HO_5 := n1_; have HO152 := n2_; have HO169 := n3_; have BK116 := n4_; have HI114 := n5_; have HR156 := n6_; have HR163 := n7_; have HR173 := n8_; have HR180 := n9_; have HB := n10_
     clear n0_ n1_ n2_ n3_ n4_ n5_ n6_ n7_ n8_ n9_ n10_ hb ho131
     refine hK.out _ _ trivial (fun hHeld => ?_)
     clear hK K
     refine norm_ (a' := ?_) ?_ ?_
     rotate_left
     ·show Act.put _ (some 214) _ = _
      simp only [Act.put, q1_, q2_, q3_, i64_w, i32_w]
      rfl
     refine one_ (i := 4) (N := some 208) #[T_,T_,T_,T_,T_,T_,T_,T_,T_,F_,T_,T_,T_,T_,F_,T_,T_,T_,T_,F_,F_,F_] rfl rfl (one_of HT_.out (by kernel_rfl)) (by decide) (fun K hK => ?_)
     refine Kd.R_append_rows_step Kd.string (w0 := w) w.heap.size (by rfl) (.tmp 204) (.tmp 207) 33 9 (.string ⟨#[]⟩) 16 rfl Try.underlying33 info9 rfl (by decide) (by omega) v151 y150 y153 _ _ _ (fun k_ => some k_ ≠ (.slice Ao123 x4_32.length co123 : Value).ownBlock) (fun _ => False) rfl rfl ?aO ?aR (fun _ _ h => h) (fun _ h => h.elim) ?aF ?aB ?aS ?aL ?_
     (case aR => repeat (first | exact (by repeat (first | (with_reducible exact HR156.out) | (with_reducible refine Kd.C_alloc ?_ _) | (with_reducible refine Kd.C_drewN ?_ _) | (with_reducible refine Kd.C_drew ?_) | exact HR156.out)) | (with_reducible refine Kd.C_alloc ?_ _) | (with_reducible refine Kd.C_drewN ?_ _) | (with_reducible refine Kd.C_drew ?_)))
     (case aB => exact (by repeat (first | (with_reducible first | exact HB.out | apply below_alloc | apply pw_below_drewN | apply below_drew1 | refine below_set ?_ (IsS69.ge HI114.out) | refine below_set ?_ GE116.out) | exact HB.out)))
     (case aF => exact (fun k_ hk => Kd.fresh' (Kd.R_lt (by (with_reducible repeat (first|apply Kd.R_alloc|apply Kd.R_drewN|apply Kd.R_drew)); exact HO_4.out)) k_ hk))
     (case aO => exact (by (with_reducible repeat (first|apply Kd.R_alloc|apply Kd.R_drewN|apply Kd.R_drew)); exact Kd.R_mono HO152.out (fun _ hk => hk.2)))
     (case aS => exact (below_size (by repeat (first | (with_reducible first | exact HB.out | apply below_alloc | apply pw_below_drewN | apply below_drew1 | refine below_set ?_ (IsS69.ge HI114.out) | refine below_set ?_ GE116.out) | exact HB.out))))
     (case aL => have := LMc110.out; omega)
     intro v158 w132 ho hb hg hat
     rw [← Ny157.out] at ho
     have n0_ := Aside0.mk (Kd.R_after (ok := (fun _ => True)) (by (with_reducible repeat (first|apply Kd.R_alloc|apply Kd.R_drewN|apply Kd.R_drew)); exact HO_4.out) hg hat)
     have n1_ := Aside0.mk (Kd.R_over' (by (with_reducible repeat (first|apply Kd.R_alloc|apply Kd.R_drewN|apply Kd.R_drew)); exact HO_5.out) (Kd.R_typed (by (with_reducible repeat (first|apply Kd.R_alloc|apply Kd.R_drewN|apply Kd.R_drew)); exact HO152.out)) (by decide) hg)
     have n2_ := Aside0.mk (blk_grown (g := gb116) (o := .cells #[.int .i64 ((rd_T36 l0 x6_1).f0), .int .i64 ((rd_T36 l0 x6_1).f1), .string ((rd_T36 l0 x6_1).f2)] 36 (0, 0)) (by (with_reducible repeat (first | refine blk_drewN ?_ _ | refine blk_drew ?_ | refine blk_alloc ?_ _)); exact BK116.out) hg (Kd.R_ne HO152.out BK116.out (by decide)))
     have n3_ := Aside0.mk (IsS69.grown (by repeat (first | (with_reducible first | exact HI114.out | apply IsS69.alloc | apply IsS69.drewN | apply IsS69.drew | refine IsS69.far ?_ (by (repeat (first | exact (Opq.NP.blk BK116.out (by decide)) | (with_reducible apply Opq.NP.setCell) | (with_reducible apply Opq.NP.drewN) | (with_reducible apply Opq.NP.drew) | (with_reducible apply Opq.NP.alloc))); done) _) | exact HI114.out)) hg (by (repeat (first | exact (Opq.NPr.typed (Kd.R_typed HO152.out) (by decide)) | (with_reducible apply Opq.NPr.setCell) | (with_reducible apply Opq.NPr.drewN) | (with_reducible apply Opq.NPr.drew) | (with_reducible apply Opq.NPr.alloc))); done))
     have n4_ := Aside0.mk (Kd.R_over' (by (with_reducible repeat (first|apply Kd.R_alloc|apply Kd.R_drewN|apply Kd.R_drew)); exact HO169.out) (Kd.R_typed (by (with_reducible repeat (first|apply Kd.R_alloc|apply Kd.R_drewN|apply Kd.R_drew)); exact HO152.out)) (by decide) hg)
     have n5_ := Aside0.mk (hb)
     have n6_ := Aside0.mk ((show Kd.C Kd.string w132 Ao123 y153.length y153 from by rw [Ny153.out]; exact Kd.C_take (m := (x8_32 : Int).toNat) ((Kd.R_reads' (Kd.R_after (ok := (fun _ => True)) (by (with_reducible repeat (first|apply Kd.R_alloc|apply Kd.R_drewN|apply Kd.R_drew)); exact HO_4.out) hg hat)).2.2) KL122.out))
     have n7_ := Aside0.mk ((show Kd.C Kd.string w132 A124 y160.length y160 from by rw [Ny160.out, KA124.out]; exact Kd.C_drop (m := ((ji111) : Int).toNat) (c := co123) ((Kd.R_reads' (Kd.R_after (ok := (fun _ => True)) (by (with_reducible repeat (first|apply Kd.R_alloc|apply Kd.R_drewN|apply Kd.R_drew)); exact HO_4.out) hg hat)).2.2) KL124.out ((Kd.R_reads' (Kd.R_after (ok := (fun _ => True)) (by (with_reducible repeat (first|apply Kd.R_alloc|apply Kd.R_drewN|apply Kd.R_drew)); exact HO_4.out) hg hat)).2.1)))
     have n8_ := Aside0.mk ((show Kd.C (Kd.int .i64) w132 Ao126 y170.length y170 from by rw [Ny170.out]; exact Kd.C_take (m := (x8_32 : Int).toNat) ((Kd.R_reads' (Kd.R_over' (by (with_reducible repeat (first|apply Kd.R_alloc|apply Kd.R_drewN|apply Kd.R_drew)); exact HO_5.out) (Kd.R_typed (by (with_reducible repeat (first|apply Kd.R_alloc|apply Kd.R_drewN|apply Kd.R_drew)); exact HO152.out)) (by decide) hg)).2.2) KL125.out))
     have n9_ := Aside0.mk ((show Kd.C (Kd.int .i64) w132 A127 y177.length y177 from by rw [Ny177.out, KA127.out]; exact Kd.C_drop (m := ((ji111) : Int).toNat) (c := co126) ((Kd.R_reads' (Kd.R_over' (by (with_reducible repeat (first|apply Kd.R_alloc|apply Kd.R_drewN|apply Kd.R_drew)); exact HO_5.out) (Kd.R_typed (by (with_reducible repeat (first|apply Kd.R_alloc|apply Kd.R_drewN|apply Kd.R_drew)); exact HO152.out)) (by decide) hg)).2.2) KL127.out ((Kd.R_reads' (Kd.R_over' (by (with_reducible repeat (first|apply Kd.R_alloc|apply Kd.R_drewN|apply Kd.R_drew)); exact HO_5.out) (Kd.R_typed (by (with_reducible repeat (first|apply Kd.R_alloc|apply Kd.R_drewN|apply Kd.R_drew)); exact HO152.out)) (by decide) hg)).2.1)))
     have n10_ := Aside0.mk (ho)
     clear HO_4 HO_5 BK116 HI114 HO169 HB HR156 HR163 HR173 HR180 HO152
     have HO_4 := n0_; have HO_5 := n1_; have BK116 := n2_; have HI114 := n3_; have HO169 := n4_; have HB := n5_; have HR156 := n6_; have HR163 := n7_; have HR173 := n8_; have HR180 := n9_; have HO159 := n10_
     clear n0_ n1_ n2_ n3_ n4_ n5_ n6_ n7_ n8_ n9_ n10_ ho hb hg hat
     refine hK.out _ _ trivial (fun hHeld => ?_)
     clear hK K
     refine norm_ (a' := ?_) ?_ ?_
     rotate_left
     ·show Act.put _ (some 208) _ = _
      simp only [Act.put, q1_, q2_, q3_, i64_w, i32_w]
      rfl
     refine one_ (i := 9) (N := some 213) #[T_,T_,T_,T_,T_,T_,T_,T_,T_,T_,T_,T_,T_,T_,F_,T_,T_,T_,T_,F_,F_,F_] rfl rfl (one_of HT_.out (by kernel_rfl)) (by decide) (fun K hK => ?_)
     refine Kd.R_append_rows_step Kd.string (w0 := w) w.heap.size (by rfl) (.tmp 208) (.tmp 212) 33 9 (.string ⟨#[]⟩) 16 rfl Try.underlying33 info9 rfl (by decide) (by omega) v158 y157 y160 _ _ _ (fun k_ => some k_ ≠ (.slice Ao123 x4_32.length co123 : Value).ownBlock) (fun _ => False) rfl rfl ?aO ?aR (fun _ _ h => h) (fun _ h => h.elim) ?aF ?aB ?aS ?aL ?_
     (case aR => repeat (first | exact (by repeat (first | (with_reducible exact HR163.out) | (with_reducible refine Kd.C_alloc ?_ _) | (with_reducible refine Kd.C_drewN ?_ _) | (with_reducible refine Kd.C_drew ?_) | exact HR163.out)) | (with_reducible refine Kd.C_alloc ?_ _) | (with_reducible refine Kd.C_drewN ?_ _) | (with_reducible refine Kd.C_drew ?_)))
     (case aB => exact (by repeat (first | (with_reducible first | exact HB.out | apply below_alloc | apply pw_below_drewN | apply below_drew1 | refine below_set ?_ (IsS69.ge HI114.out) | refine below_set ?_ GE116.out) | exact HB.out)))
     (case aF => exact (fun k_ hk => Kd.fresh' (Kd.R_lt (by (with_reducible repeat (first|apply Kd.R_alloc|apply Kd.R_drewN|apply Kd.R_drew)); exact HO_4.out)) k_ hk))
     (case aO => exact (by (with_reducible repeat (first|apply Kd.R_alloc|apply Kd.R_drewN|apply Kd.R_drew)); exact HO159.out))
     (case aS => exact (below_size (by repeat (first | (with_reducible first | exact HB.out | apply below_alloc | apply pw_below_drewN | apply below_drew1 | refine below_set ?_ (IsS69.ge HI114.out) | refine below_set ?_ GE116.out) | exact HB.out))))
     (case aL => have := LMc114.out; omega)
     intro v165 w133 ho hb hg hat
     rw [← Ny164.out] at ho
     have n0_ := Aside0.mk (Kd.R_after (ok := (fun _ => True)) (by (with_reducible repeat (first|apply Kd.R_alloc|apply Kd.R_drewN|apply Kd.R_drew)); exact HO_4.out) hg hat)
     have n1_ := Aside0.mk (Kd.R_over' (by (with_reducible repeat (first|apply Kd.R_alloc|apply Kd.R_drewN|apply Kd.R_drew)); exact HO_5.out) (Kd.R_typed (by (with_reducible repeat (first|apply Kd.R_alloc|apply Kd.R_drewN|apply Kd.R_drew)); exact HO159.out)) (by decide) hg)
     have n2_ := Aside0.mk (blk_grown (g := gb116) (o := .cells #[.int .i64 ((rd_T36 l0 x6_1).f0), .int .i64 ((rd_T36 l0 x6_1).f1), .string ((rd_T36 l0 x6_1).f2)] 36 (0, 0)) (by (with_reducible repeat (first | refine blk_drewN ?_ _ | refine blk_drew ?_ | refine blk_alloc ?_ _)); exact BK116.out) hg (Kd.R_ne HO159.out BK116.out (by decide)))
     have n3_ := Aside0.mk (IsS69.grown (by repeat (first | (with_reducible first | exact HI114.out | apply IsS69.alloc | apply IsS69.drewN | apply IsS69.drew | refine IsS69.far ?_ (by (repeat (first | exact (Opq.NP.blk BK116.out (by decide)) | (with_reducible apply Opq.NP.setCell) | (with_reducible apply Opq.NP.drewN) | (with_reducible apply Opq.NP.drew) | (with_reducible apply Opq.NP.alloc))); done) _) | exact HI114.out)) hg (by (repeat (first | exact (Opq.NPr.typed (Kd.R_typed HO159.out) (by decide)) | (with_reducible apply Opq.NPr.setCell) | (with_reducible apply Opq.NPr.drewN) | (with_reducible apply Opq.NPr.drew) | (with_reducible apply Opq.NPr.alloc))); done))
     have n4_ := Aside0.mk (Kd.R_over' (by (with_reducible repeat (first|apply Kd.R_alloc|apply Kd.R_drewN|apply Kd.R_drew)); exact HO169.out) (Kd.R_typed (by (with_reducible repeat (first|apply Kd.R_alloc|apply Kd.R_drewN|apply Kd.R_drew)); exact HO159.out)) (by decide) hg)
     have n5_ := Aside0.mk (hb)
     have n6_ := Aside0.mk ((show Kd.C Kd.string w133 Ao123 y153.length y153 from by rw [Ny153.out]; exact Kd.C_take (m := (x8_32 : Int).toNat) ((Kd.R_reads' (Kd.R_after (ok := (fun _ => True)) (by (with_reducible repeat (first|apply Kd.R_alloc|apply Kd.R_drewN|apply Kd.R_drew)); exact HO_4.out) hg hat)).2.2) KL122.out))
     have n7_ := Aside0.mk ((show Kd.C Kd.string w133 A124 y160.length y160 from by rw [Ny160.out, KA124.out]; exact Kd.C_drop (m := ((ji111) : Int).toNat) (c := co123) ((Kd.R_reads' (Kd.R_after (ok := (fun _ => True)) (by (with_reducible repeat (first|apply Kd.R_alloc|apply Kd.R_drewN|apply Kd.R_drew)); exact HO_4.out) hg hat)).2.2) KL124.out ((Kd.R_reads' (Kd.R_after (ok := (fun _ => True)) (by (with_reducible repeat (first|apply Kd.R_alloc|apply Kd.R_drewN|apply Kd.R_drew)); exact HO_4.out) hg hat)).2.1)))
     have n8_ := Aside0.mk ((show Kd.C (Kd.int .i64) w133 Ao126 y170.length y170 from by rw [Ny170.out]; exact Kd.C_take (m := (x8_32 : Int).toNat) ((Kd.R_reads' (Kd.R_over' (by (with_reducible repeat (first|apply Kd.R_alloc|apply Kd.R_drewN|apply Kd.R_drew)); exact HO_5.out) (Kd.R_typed (by (with_reducible repeat (first|apply Kd.R_alloc|apply Kd.R_drewN|apply Kd.R_drew)); exact HO159.out)) (by decide) hg)).2.2) KL125.out))
     have n9_ := Aside0.mk ((show Kd.C (Kd.int .i64) w133 A127 y177.length y177 from by rw [Ny177.out, KA127.out]; exact Kd.C_drop (m := ((ji111) : Int).toNat) (c := co126) ((Kd.R_reads' (Kd.R_over' (by (with_reducible repeat (first|apply Kd.R_alloc|apply Kd.R_drewN|apply Kd.R_drew)); exact HO_5.out) (Kd.R_typed (by (with_reducible repeat (first|apply Kd.R_alloc|apply Kd.R_drewN|apply Kd.R_drew)); exact HO159.out)) (by decide) hg)).2.2) KL127.out ((Kd.R_reads' (Kd.R_over' (by (with_reducible repeat (first|apply Kd.R_alloc|apply Kd.R_drewN|apply Kd.R_drew)); exact HO_5.out) (Kd.R_typed (by (with_reducible repeat (first|apply Kd.R_alloc|apply Kd.R_drewN|apply Kd.R_drew)); exact HO159.out)) (by decide) hg)).2.1)))
     have n10_ := Aside0.mk (ho)
     clear HO_4 HO_5 BK116 HI114 HO169 HB HR156 HR163 HR173 HR180 HO159
     have HO_4 := n0_; have HO_5 := n1_; have BK116 := n2_; have HI114 := n3_; have HO169 := n4_; have HB := n5_; have HR156 := n6_; have HR163 := n7_; have HR173 := n8_; have HR180 := n9_; have HO166 := n10_
     clear n0_ n1_ n2_ n3_ n4_ n5_ n6_ n7_ n8_ n9_ n10_ ho hb hg hat
     refine hK.out _ _ trivial (fun hHeld => ?_)
     clear hK K
     refine norm_ (a' := ?_) ?_ ?_
     rotate_left
     ·show Act.put _ (some 213) _ = _
      simp only [Act.put, q1_, q2_, q3_, i64_w, i32_w]
      rfl
     exact norm_ (by simp only [putAll, Act.put, List.setIfInBounds_toArray, List.set_cons_zero, List.set_cons_succ]) (hCont (v151, v158, v165, v168) _ ⟨(by (with_reducible repeat (first|apply Kd.R_alloc|apply Kd.R_drewN|apply Kd.R_drew)); exact HO166.out), (by (with_reducible repeat (first|apply Kd.R_alloc|apply Kd.R_drewN|apply Kd.R_drew)); exact Kd.R_mono HO169.out (fun _ hk => hk.2)), (by (with_reducible repeat (first|apply Kd.R_alloc|apply Kd.R_drewN|apply Kd.R_drew)); exact Kd.R_mono HO_4.out (fun _ hk => hk.2)), (by (with_reducible repeat (first|apply Kd.R_alloc|apply Kd.R_drewN|apply Kd.R_drew)); exact Kd.R_mono HO_5.out (fun _ hk => hk.2)), (by (with_reducible repeat (first | refine blk_drewN ?_ _ | refine blk_drew ?_ | refine blk_alloc ?_ _)); exact BK116.out), (by repeat (first | (with_reducible exact HR156.out) | (with_reducible refine Kd.C_alloc ?_ _) | (with_reducible refine Kd.C_drewN ?_ _) | (with_reducible refine Kd.C_drew ?_) | exact HR156.out)), (by repeat (first | (with_reducible exact HR163.out) | (with_reducible refine Kd.C_alloc ?_ _) | (with_reducible refine Kd.C_drewN ?_ _) | (with_reducible refine Kd.C_drew ?_) | exact HR163.out)), (by repeat (first | (with_reducible exact HR173.out) | (with_reducible refine Kd.C_alloc ?_ _) | (with_reducible refine Kd.C_drewN ?_ _) | (with_reducible refine Kd.C_drew ?_) | exact HR173.out)), (by repeat (first | (with_reducible exact HR180.out) | (with_reducible refine Kd.C_alloc ?_ _) | (with_reducible refine Kd.C_drewN ?_ _) | (with_reducible refine Kd.C_drew ?_) | exact HR180.out)), (by repeat (first | (with_reducible first | exact HI114.out | apply IsS69.alloc | apply IsS69.drewN | apply IsS69.drew | refine IsS69.far ?_ (by (repeat (first | exact (Opq.NP.blk BK116.out (by decide)) | (with_reducible apply Opq.NP.setCell) | (with_reducible apply Opq.NP.drewN) | (with_reducible apply Opq.NP.drew) | (with_reducible apply Opq.NP.alloc))); done) _) | exact HI114.out)), (by repeat (first | (with_reducible first | exact HB.out | apply below_alloc | apply pw_below_drewN | apply below_drew1 | refine below_set ?_ (IsS69.ge HI114.out) | refine below_set ?_ GE116.out) | exact HB.out))⟩)
    skip
    refine Kd.R_lit_step (Kd.int .i64) _ 3 ?hg (N := 214) ?hd (xs := ([] : List Int)) (inner := []) (ok := fun _ => True) (okp := fun _ => True) ?hr ?hp (fun _ hk => hk) trivial (Below.refl _ _) (Nat.le_refl _) (by simp) ?_; (case hd => rfl); (case hg => rfl); (case hr => first | (go_simp; done) | (go_simp; rfl) | (go_simp; simp [IntKind.wrap_u8, IntKind.wrap_u32]; done)); (case hp => exact (Reps.none _ _))
    intro v168 w128 ho129 hb hg_ hnew_
    clear hg_ hnew_
    (first | rw [← Ny167.out] at ho129 | (simp only [Int.reduceToNat] at ho129; rw [← Ny167.out] at ho129))
    have n0_ := Aside0.mk (Kd.R_below (by (with_reducible repeat (first|apply Kd.R_alloc|apply Kd.R_drewN|apply Kd.R_drew)); exact HO_4.out) hb)
    have n1_ := Aside0.mk (Kd.R_elder' (by (with_reducible repeat (first|apply Kd.R_alloc|apply Kd.R_drewN|apply Kd.R_drew)); exact HO_5.out) (Kd.R_base ho129) hb)
    have n2_ := Aside0.mk (Kd.R_lower (Kd.R_new' ho129 (Kd.R_lt (by (with_reducible repeat (first|apply Kd.R_alloc|apply Kd.R_drewN|apply Kd.R_drew)); exact HO_5.out))) (below_size (by repeat (first | (with_reducible first | exact HB.out | apply below_alloc | apply pw_below_drewN | apply below_drew1 | refine below_set ?_ (IsS69.ge HI114.out) | refine below_set ?_ GE116.out) | exact HB.out))))
    have n3_ := Aside0.mk (blk_below (g := gb116) (o := .cells #[.int .i64 ((rd_T36 l0 x6_1).f0), .int .i64 ((rd_T36 l0 x6_1).f1), .string ((rd_T36 l0 x6_1).f2)] 36 (0, 0)) (by (with_reducible repeat (first | refine blk_drewN ?_ _ | refine blk_drew ?_ | refine blk_alloc ?_ _)); exact BK116.out) hb)
    have n4_ := Aside0.mk (IsS69.below (by repeat (first | (with_reducible first | exact HI114.out | apply IsS69.alloc | apply IsS69.drewN | apply IsS69.drew | refine IsS69.far ?_ (by (repeat (first | exact (Opq.NP.blk BK116.out (by decide)) | (with_reducible apply Opq.NP.setCell) | (with_reducible apply Opq.NP.drewN) | (with_reducible apply Opq.NP.drew) | (with_reducible apply Opq.NP.alloc))); done) _) | exact HI114.out)) hb)
    have n5_ := Aside0.mk (Kd.C_below (by repeat (first | (with_reducible exact HR156.out) | (with_reducible refine Kd.C_alloc ?_ _) | (with_reducible refine Kd.C_drewN ?_ _) | (with_reducible refine Kd.C_drew ?_) | exact HR156.out)) hb)
    have n6_ := Aside0.mk (Kd.C_below (by repeat (first | (with_reducible exact HR163.out) | (with_reducible refine Kd.C_alloc ?_ _) | (with_reducible refine Kd.C_drewN ?_ _) | (with_reducible refine Kd.C_drew ?_) | exact HR163.out)) hb)
    have n7_ := Aside0.mk (Kd.C_below (by repeat (first | (with_reducible exact HR173.out) | (with_reducible refine Kd.C_alloc ?_ _) | (with_reducible refine Kd.C_drewN ?_ _) | (with_reducible refine Kd.C_drew ?_) | exact HR173.out)) hb)
    have n8_ := Aside0.mk (Kd.C_below (by repeat (first | (with_reducible exact HR180.out) | (with_reducible refine Kd.C_alloc ?_ _) | (with_reducible refine Kd.C_drewN ?_ _) | (with_reducible refine Kd.C_drew ?_) | exact HR180.out)) hb)
    have n9_ := Aside0.mk (below_step (by repeat (first | (with_reducible first | exact HB.out | apply below_alloc | apply pw_below_drewN | apply below_drew1 | refine below_set ?_ (IsS69.ge HI114.out) | refine below_set ?_ GE116.out) | exact HB.out)) hb)
    clear HO_4 HO_5 BK116 HI114 HR156 HR163 HR173 HR180 HB
    have HO_4 := n0_; have HO_5 := n1_; have HO169 := n2_; have BK116 := n3_; have HI114 := n4_; have HR156 := n5_; have HR163 := n6_; have HR173 := n7_; have HR180 := n8_; have HB := n9_
    clear n0_ n1_ n2_ n3_ n4_ n5_ n6_ n7_ n8_ n9_ hb ho129
    refine hK.out _ _ trivial (fun hHeld => ?_)
    clear hK K
    refine norm_ (a' := ?_) ?_ ?_
    rotate_left
    ·show Act.put _ (some 214) _ = _
     simp only [Act.put, q1_, q2_, q3_, i64_w, i32_w]
     rfl
    refine one_ (i := 0) (N := some 204) #[T_,T_,T_,T_,F_,T_,T_,T_,T_,F_,T_,T_,T_,T_,F_,T_,T_,T_,T_,F_,F_,F_] rfl rfl (one_of HT_.out (by kernel_rfl)) (by decide) (fun K hK => ?_)
    refine Kd.R_lit_step Kd.string _ 9 ?hg (N := 204) ?hd (xs := ([] : List ByteArray)) (inner := []) (ok := fun _ => True) (okp := fun _ => True) ?hr ?hp (fun _ hk => hk) trivial (Below.refl _ _) (Nat.le_refl _) (by simp) ?_; (case hd => rfl); (case hg => rfl); (case hr => first | (go_simp; done) | (go_simp; rfl) | (go_simp; simp [IntKind.wrap_u8, IntKind.wrap_u32]; done)); (case hp => exact (Reps.none _ _))
    intro v151 w130 ho131 hb hg_ hnew_
    clear hg_ hnew_
    (first | rw [← Ny150.out] at ho131 | (simp only [Int.reduceToNat] at ho131; rw [← Ny150.out] at ho131))
    have n0_ := Aside0.mk (Kd.R_elder' (by (with_reducible repeat (first|apply Kd.R_alloc|apply Kd.R_drewN|apply Kd.R_drew)); exact HO_4.out) (Kd.R_base ho131) hb)
    have n1_ := Aside0.mk (Kd.R_below (by (with_reducible repeat (first|apply Kd.R_alloc|apply Kd.R_drewN|apply Kd.R_drew)); exact HO_5.out) hb)
    have n2_ := Aside0.mk (Kd.R_below (by (with_reducible repeat (first|apply Kd.R_alloc|apply Kd.R_drewN|apply Kd.R_drew)); exact HO169.out) hb)
    have n3_ := Aside0.mk (Kd.R_lower (Kd.R_new' ho131 (Kd.R_lt (by (with_reducible repeat (first|apply Kd.R_alloc|apply Kd.R_drewN|apply Kd.R_drew)); exact HO_4.out))) (below_size (by repeat (first | (with_reducible first | exact HB.out | apply below_alloc | apply pw_below_drewN | apply below_drew1 | refine below_set ?_ (IsS69.ge HI114.out) | refine below_set ?_ GE116.out) | exact HB.out))))
    have n4_ := Aside0.mk (blk_below (g := gb116) (o := .cells #[.int .i64 ((rd_T36 l0 x6_1).f0), .int .i64 ((rd_T36 l0 x6_1).f1), .string ((rd_T36 l0 x6_1).f2)] 36 (0, 0)) (by (with_reducible repeat (first | refine blk_drewN ?_ _ | refine blk_drew ?_ | refine blk_alloc ?_ _)); exact BK116.out) hb)
    have n5_ := Aside0.mk (IsS69.below (by repeat (first | (with_reducible first | exact HI114.out | apply IsS69.alloc | apply IsS69.drewN | apply IsS69.drew | refine IsS69.far ?_ (by (repeat (first | exact (Opq.NP.blk BK116.out (by decide)) | (with_reducible apply Opq.NP.setCell) | (with_reducible apply Opq.NP.drewN) | (with_reducible apply Opq.NP.drew) | (with_reducible apply Opq.NP.alloc))); done) _) | exact HI114.out)) hb)
    have n6_ := Aside0.mk (Kd.C_below (by repeat (first | (with_reducible exact HR156.out) | (with_reducible refine Kd.C_alloc ?_ _) | (with_reducible refine Kd.C_drewN ?_ _) | (with_reducible refine Kd.C_drew ?_) | exact HR156.out)) hb)
    have n7_ := Aside0.mk (Kd.C_below (by repeat (first | (with_reducible exact HR163.out) | (with_reducible refine Kd.C_alloc ?_ _) | (with_reducible refine Kd.C_drewN ?_ _) | (with_reducible refine Kd.C_drew ?_) | exact HR163.out)) hb)
    have n8_ := Aside0.mk (Kd.C_below (by repeat (first | (with_reducible exact HR173.out) | (with_reducible refine Kd.C_alloc ?_ _) | (with_reducible refine Kd.C_drewN ?_ _) | (with_reducible refine Kd.C_drew ?_) | exact HR173.out)) hb)
    have n9_ := Aside0.mk (Kd.C_below (by repeat (first | (with_reducible exact HR180.out) | (with_reducible refine Kd.C_alloc ?_ _) | (with_reducible refine Kd.C_drewN ?_ _) | (with_reducible refine Kd.C_drew ?_) | exact HR180.out)) hb)
    have n10_ := Aside0.mk (below_step (by repeat (first | (with_reducible first | exact HB.out | apply below_alloc | apply pw_below_drewN | apply below_drew1 | refine below_set ?_ (IsS69.ge HI114.out) | refine below_set ?_ GE116.out) | exact HB.out)) hb)
    clear HO_4 HO_5 HO169 BK116 HI114 HR156 HR163 HR173 HR180 HB
    have HO_4 := n0_; have HO_5 := n1_; have HO169 := n2_; have HO152 := n3_; have BK116 := n4_; have HI114 := n5_; have HR156 := n6_; have HR163 := n7_; have HR173 := n8_; have HR180 := n9_; have HB := n10_
    clear n0_ n1_ n2_ n3_ n4_ n5_ n6_ n7_ n8_ n9_ n10_ hb ho131
    refine hK.out _ _ trivial (fun hHeld => ?_)
    clear hK K
    refine norm_ (a' := ?_) ?_ ?_
    rotate_left
    ·show Act.put _ (some 204) _ = _
     simp only [Act.put, q1_, q2_, q3_, i64_w, i32_w]
     rfl
    refine one_ (i := 4) (N := some 208) #[T_,T_,T_,T_,T_,T_,T_,T_,T_,F_,T_,T_,T_,T_,F_,T_,T_,T_,T_,F_,F_,F_] rfl rfl (one_of HT_.out (by kernel_rfl)) (by decide) (fun K hK => ?_)
    refine Kd.R_append_rows_step Kd.string (w0 := w) w.heap.size (by rfl) (.tmp 204) (.tmp 207) 33 9 (.string ⟨#[]⟩) 16 rfl Try.underlying33 info9 rfl (by decide) (by omega) v151 y150 y153 _ _ _ (fun k_ => some k_ ≠ (.slice Ao123 x4_32.length co123 : Value).ownBlock) (fun _ => False) rfl rfl ?aO ?aR (fun _ _ h => h) (fun _ h => h.elim) ?aF ?aB ?aS ?aL ?_
    (case aR => repeat (first | exact (by repeat (first | (with_reducible exact HR156.out) | (with_reducible refine Kd.C_alloc ?_ _) | (with_reducible refine Kd.C_drewN ?_ _) | (with_reducible refine Kd.C_drew ?_) | exact HR156.out)) | (with_reducible refine Kd.C_alloc ?_ _) | (with_reducible refine Kd.C_drewN ?_ _) | (with_reducible refine Kd.C_drew ?_)))
    (case aB => exact (by repeat (first | (with_reducible first | exact HB.out | apply below_alloc | apply pw_below_drewN | apply below_drew1 | refine below_set ?_ (IsS69.ge HI114.out) | refine below_set ?_ GE116.out) | exact HB.out)))
    (case aF => exact (fun k_ hk => Kd.fresh' (Kd.R_lt (by (with_reducible repeat (first|apply Kd.R_alloc|apply Kd.R_drewN|apply Kd.R_drew)); exact HO_4.out)) k_ hk))
    (case aO => exact (by (with_reducible repeat (first|apply Kd.R_alloc|apply Kd.R_drewN|apply Kd.R_drew)); exact Kd.R_mono HO152.out (fun _ hk => hk.2)))
    (case aS => exact (below_size (by repeat (first | (with_reducible first | exact HB.out | apply below_alloc | apply pw_below_drewN | apply below_drew1 | refine below_set ?_ (IsS69.ge HI114.out) | refine below_set ?_ GE116.out) | exact HB.out))))
    (case aL => have := LMc110.out; omega)
    intro v158 w132 ho hb hg hat
    rw [← Ny157.out] at ho
    have n0_ := Aside0.mk (Kd.R_after (ok := (fun _ => True)) (by (with_reducible repeat (first|apply Kd.R_alloc|apply Kd.R_drewN|apply Kd.R_drew)); exact HO_4.out) hg hat)
    have n1_ := Aside0.mk (Kd.R_over' (by (with_reducible repeat (first|apply Kd.R_alloc|apply Kd.R_drewN|apply Kd.R_drew)); exact HO_5.out) (Kd.R_typed (by (with_reducible repeat (first|apply Kd.R_alloc|apply Kd.R_drewN|apply Kd.R_drew)); exact HO152.out)) (by decide) hg)
    have n2_ := Aside0.mk (blk_grown (g := gb116) (o := .cells #[.int .i64 ((rd_T36 l0 x6_1).f0), .int .i64 ((rd_T36 l0 x6_1).f1), .string ((rd_T36 l0 x6_1).f2)] 36 (0, 0)) (by (with_reducible repeat (first | refine blk_drewN ?_ _ | refine blk_drew ?_ | refine blk_alloc ?_ _)); exact BK116.out) hg (Kd.R_ne HO152.out BK116.out (by decide)))
    have n3_ := Aside0.mk (IsS69.grown (by repeat (first | (with_reducible first | exact HI114.out | apply IsS69.alloc | apply IsS69.drewN | apply IsS69.drew | refine IsS69.far ?_ (by (repeat (first | exact (Opq.NP.blk BK116.out (by decide)) | (with_reducible apply Opq.NP.setCell) | (with_reducible apply Opq.NP.drewN) | (with_reducible apply Opq.NP.drew) | (with_reducible apply Opq.NP.alloc))); done) _) | exact HI114.out)) hg (by (repeat (first | exact (Opq.NPr.typed (Kd.R_typed HO152.out) (by decide)) | (with_reducible apply Opq.NPr.setCell) | (with_reducible apply Opq.NPr.drewN) | (with_reducible apply Opq.NPr.drew) | (with_reducible apply Opq.NPr.alloc))); done))
    have n4_ := Aside0.mk (Kd.R_over' (by (with_reducible repeat (first|apply Kd.R_alloc|apply Kd.R_drewN|apply Kd.R_drew)); exact HO169.out) (Kd.R_typed (by (with_reducible repeat (first|apply Kd.R_alloc|apply Kd.R_drewN|apply Kd.R_drew)); exact HO152.out)) (by decide) hg)
    have n5_ := Aside0.mk (hb)
    have n6_ := Aside0.mk ((show Kd.C Kd.string w132 Ao123 y153.length y153 from by rw [Ny153.out]; exact Kd.C_take (m := (x8_32 : Int).toNat) ((Kd.R_reads' (Kd.R_after (ok := (fun _ => True)) (by (with_reducible repeat (first|apply Kd.R_alloc|apply Kd.R_drewN|apply Kd.R_drew)); exact HO_4.out) hg hat)).2.2) KL122.out))
    have n7_ := Aside0.mk ((show Kd.C Kd.string w132 A124 y160.length y160 from by rw [Ny160.out, KA124.out]; exact Kd.C_drop (m := ((ji111) : Int).toNat) (c := co123) ((Kd.R_reads' (Kd.R_after (ok := (fun _ => True)) (by (with_reducible repeat (first|apply Kd.R_alloc|apply Kd.R_drewN|apply Kd.R_drew)); exact HO_4.out) hg hat)).2.2) KL124.out ((Kd.R_reads' (Kd.R_after (ok := (fun _ => True)) (by (with_reducible repeat (first|apply Kd.R_alloc|apply Kd.R_drewN|apply Kd.R_drew)); exact HO_4.out) hg hat)).2.1)))
    have n8_ := Aside0.mk ((show Kd.C (Kd.int .i64) w132 Ao126 y170.length y170 from by rw [Ny170.out]; exact Kd.C_take (m := (x8_32 : Int).toNat) ((Kd.R_reads' (Kd.R_over' (by (with_reducible repeat (first|apply Kd.R_alloc|apply Kd.R_drewN|apply Kd.R_drew)); exact HO_5.out) (Kd.R_typed (by (with_reducible repeat (first|apply Kd.R_alloc|apply Kd.R_drewN|apply Kd.R_drew)); exact HO152.out)) (by decide) hg)).2.2) KL125.out))
    have n9_ := Aside0.mk ((show Kd.C (Kd.int .i64) w132 A127 y177.length y177 from by rw [Ny177.out, KA127.out]; exact Kd.C_drop (m := ((ji111) : Int).toNat) (c := co126) ((Kd.R_reads' (Kd.R_over' (by (with_reducible repeat (first|apply Kd.R_alloc|apply Kd.R_drewN|apply Kd.R_drew)); exact HO_5.out) (Kd.R_typed (by (with_reducible repeat (first|apply Kd.R_alloc|apply Kd.R_drewN|apply Kd.R_drew)); exact HO152.out)) (by decide) hg)).2.2) KL127.out ((Kd.R_reads' (Kd.R_over' (by (with_reducible repeat (first|apply Kd.R_alloc|apply Kd.R_drewN|apply Kd.R_drew)); exact HO_5.out) (Kd.R_typed (by (with_reducible repeat (first|apply Kd.R_alloc|apply Kd.R_drewN|apply Kd.R_drew)); exact HO152.out)) (by decide) hg)).2.1)))
    have n10_ := Aside0.mk (ho)
    clear HO_4 HO_5 BK116 HI114 HO169 HB HR156 HR163 HR173 HR180 HO152
    have HO_4 := n0_; have HO_5 := n1_; have BK116 := n2_; have HI114 := n3_; have HO169 := n4_; have HB := n5_; have HR156 := n6_; have HR163 := n7_; have HR173 := n8_; have HR180 := n9_; have HO159 := n10_
    clear n0_ n1_ n2_ n3_ n4_ n5_ n6_ n7_ n8_ n9_ n10_ ho hb hg hat
    refine hK.out _ _ trivial (fun hHeld => ?_)
    clear hK K
    refine norm_ (a' := ?_) ?_ ?_
    rotate_left
    ·show Act.put _ (some 208) _ = _
     simp only [Act.put, q1_, q2_, q3_, i64_w, i32_w]
     rfl
    refine one_ (i := 9) (N := some 213) #[T_,T_,T_,T_,T_,T_,T_,T_,T_,T_,T_,T_,T_,T_,F_,T_,T_,T_,T_,F_,F_,F_] rfl rfl (one_of HT_.out (by kernel_rfl)) (by decide) (fun K hK => ?_)
    refine Kd.R_append_rows_step Kd.string (w0 := w) w.heap.size (by rfl) (.tmp 208) (.tmp 212) 33 9 (.string ⟨#[]⟩) 16 rfl Try.underlying33 info9 rfl (by decide) (by omega) v158 y157 y160 _ _ _ (fun k_ => some k_ ≠ (.slice Ao123 x4_32.length co123 : Value).ownBlock) (fun _ => False) rfl rfl ?aO ?aR (fun _ _ h => h) (fun _ h => h.elim) ?aF ?aB ?aS ?aL ?_
    (case aR => repeat (first | exact (by repeat (first | (with_reducible exact HR163.out) | (with_reducible refine Kd.C_alloc ?_ _) | (with_reducible refine Kd.C_drewN ?_ _) | (with_reducible refine Kd.C_drew ?_) | exact HR163.out)) | (with_reducible refine Kd.C_alloc ?_ _) | (with_reducible refine Kd.C_drewN ?_ _) | (with_reducible refine Kd.C_drew ?_)))
    (case aB => exact (by repeat (first | (with_reducible first | exact HB.out | apply below_alloc | apply pw_below_drewN | apply below_drew1 | refine below_set ?_ (IsS69.ge HI114.out) | refine below_set ?_ GE116.out) | exact HB.out)))
    (case aF => exact (fun k_ hk => Kd.fresh' (Kd.R_lt (by (with_reducible repeat (first|apply Kd.R_alloc|apply Kd.R_drewN|apply Kd.R_drew)); exact HO_4.out)) k_ hk))
    (case aO => exact (by (with_reducible repeat (first|apply Kd.R_alloc|apply Kd.R_drewN|apply Kd.R_drew)); exact HO159.out))
    (case aS => exact (below_size (by repeat (first | (with_reducible first | exact HB.out | apply below_alloc | apply pw_below_drewN | apply below_drew1 | refine below_set ?_ (IsS69.ge HI114.out) | refine below_set ?_ GE116.out) | exact HB.out))))
    (case aL => have := LMc114.out; omega)
    intro v165 w133 ho hb hg hat
    rw [← Ny164.out] at ho
    have n0_ := Aside0.mk (Kd.R_after (ok := (fun _ => True)) (by (with_reducible repeat (first|apply Kd.R_alloc|apply Kd.R_drewN|apply Kd.R_drew)); exact HO_4.out) hg hat)
    have n1_ := Aside0.mk (Kd.R_over' (by (with_reducible repeat (first|apply Kd.R_alloc|apply Kd.R_drewN|apply Kd.R_drew)); exact HO_5.out) (Kd.R_typed (by (with_reducible repeat (first|apply Kd.R_alloc|apply Kd.R_drewN|apply Kd.R_drew)); exact HO159.out)) (by decide) hg)
    have n2_ := Aside0.mk (blk_grown (g := gb116) (o := .cells #[.int .i64 ((rd_T36 l0 x6_1).f0), .int .i64 ((rd_T36 l0 x6_1).f1), .string ((rd_T36 l0 x6_1).f2)] 36 (0, 0)) (by (with_reducible repeat (first | refine blk_drewN ?_ _ | refine blk_drew ?_ | refine blk_alloc ?_ _)); exact BK116.out) hg (Kd.R_ne HO159.out BK116.out (by decide)))
    have n3_ := Aside0.mk (IsS69.grown (by repeat (first | (with_reducible first | exact HI114.out | apply IsS69.alloc | apply IsS69.drewN | apply IsS69.drew | refine IsS69.far ?_ (by (repeat (first | exact (Opq.NP.blk BK116.out (by decide)) | (with_reducible apply Opq.NP.setCell) | (with_reducible apply Opq.NP.drewN) | (with_reducible apply Opq.NP.drew) | (with_reducible apply Opq.NP.alloc))); done) _) | exact HI114.out)) hg (by (repeat (first | exact (Opq.NPr.typed (Kd.R_typed HO159.out) (by decide)) | (with_reducible apply Opq.NPr.setCell) | (with_reducible apply Opq.NPr.drewN) | (with_reducible apply Opq.NPr.drew) | (with_reducible apply Opq.NPr.alloc))); done))
    have n4_ := Aside0.mk (Kd.R_over' (by (with_reducible repeat (first|apply Kd.R_alloc|apply Kd.R_drewN|apply Kd.R_drew)); exact HO169.out) (Kd.R_typed (by (with_reducible repeat (first|apply Kd.R_alloc|apply Kd.R_drewN|apply Kd.R_drew)); exact HO159.out)) (by decide) hg)
    have n5_ := Aside0.mk (hb)
    have n6_ := Aside0.mk ((show Kd.C Kd.string w133 Ao123 y153.length y153 from by rw [Ny153.out]; exact Kd.C_take (m := (x8_32 : Int).toNat) ((Kd.R_reads' (Kd.R_after (ok := (fun _ => True)) (by (with_reducible repeat (first|apply Kd.R_alloc|apply Kd.R_drewN|apply Kd.R_drew)); exact HO_4.out) hg hat)).2.2) KL122.out))
    have n7_ := Aside0.mk ((show Kd.C Kd.string w133 A124 y160.length y160 from by rw [Ny160.out, KA124.out]; exact Kd.C_drop (m := ((ji111) : Int).toNat) (c := co123) ((Kd.R_reads' (Kd.R_after (ok := (fun _ => True)) (by (with_reducible repeat (first|apply Kd.R_alloc|apply Kd.R_drewN|apply Kd.R_drew)); exact HO_4.out) hg hat)).2.2) KL124.out ((Kd.R_reads' (Kd.R_after (ok := (fun _ => True)) (by (with_reducible repeat (first|apply Kd.R_alloc|apply Kd.R_drewN|apply Kd.R_drew)); exact HO_4.out) hg hat)).2.1)))
    have n8_ := Aside0.mk ((show Kd.C (Kd.int .i64) w133 Ao126 y170.length y170 from by rw [Ny170.out]; exact Kd.C_take (m := (x8_32 : Int).toNat) ((Kd.R_reads' (Kd.R_over' (by (with_reducible repeat (first|apply Kd.R_alloc|apply Kd.R_drewN|apply Kd.R_drew)); exact HO_5.out) (Kd.R_typed (by (with_reducible repeat (first|apply Kd.R_alloc|apply Kd.R_drewN|apply Kd.R_drew)); exact HO159.out)) (by decide) hg)).2.2) KL125.out))
    have n9_ := Aside0.mk ((show Kd.C (Kd.int .i64) w133 A127 y177.length y177 from by rw [Ny177.out, KA127.out]; exact Kd.C_drop (m := ((ji111) : Int).toNat) (c := co126) ((Kd.R_reads' (Kd.R_over' (by (with_reducible repeat (first|apply Kd.R_alloc|apply Kd.R_drewN|apply Kd.R_drew)); exact HO_5.out) (Kd.R_typed (by (with_reducible repeat (first|apply Kd.R_alloc|apply Kd.R_drewN|apply Kd.R_drew)); exact HO159.out)) (by decide) hg)).2.2) KL127.out ((Kd.R_reads' (Kd.R_over' (by (with_reducible repeat (first|apply Kd.R_alloc|apply Kd.R_drewN|apply Kd.R_drew)); exact HO_5.out) (Kd.R_typed (by (with_reducible repeat (first|apply Kd.R_alloc|apply Kd.R_drewN|apply Kd.R_drew)); exact HO159.out)) (by decide) hg)).2.1)))
    have n10_ := Aside0.mk (ho)
    clear HO_4 HO_5 BK116 HI114 HO169 HB HR156 HR163 HR173 HR180 HO159
    have HO_4 := n0_; have HO_5 := n1_; have BK116 := n2_; have HI114 := n3_; have HO169 := n4_; have HB := n5_; have HR156 := n6_; have HR163 := n7_; have HR173 := n8_; have HR180 := n9_; have HO166 := n10_
    clear n0_ n1_ n2_ n3_ n4_ n5_ n6_ n7_ n8_ n9_ n10_ ho hb hg hat
    refine hK.out _ _ trivial (fun hHeld => ?_)
    clear hK K
    refine norm_ (a' := ?_) ?_ ?_
    rotate_left
    ·show Act.put _ (some 213) _ = _
     simp only [Act.put, q1_, q2_, q3_, i64_w, i32_w]
     rfl
    exact norm_ (by simp only [putAll, Act.put, List.setIfInBounds_toArray, List.set_cons_zero, List.set_cons_succ]) (hCont (v151, v158, v165, v168) _ ⟨(by (with_reducible repeat (first|apply Kd.R_alloc|apply Kd.R_drewN|apply Kd.R_drew)); exact HO166.out), (by (with_reducible repeat (first|apply Kd.R_alloc|apply Kd.R_drewN|apply Kd.R_drew)); exact Kd.R_mono HO169.out (fun _ hk => hk.2)), (by (with_reducible repeat (first|apply Kd.R_alloc|apply Kd.R_drewN|apply Kd.R_drew)); exact Kd.R_mono HO_4.out (fun _ hk => hk.2)), (by (with_reducible repeat (first|apply Kd.R_alloc|apply Kd.R_drewN|apply Kd.R_drew)); exact Kd.R_mono HO_5.out (fun _ hk => hk.2)), (by (with_reducible repeat (first | refine blk_drewN ?_ _ | refine blk_drew ?_ | refine blk_alloc ?_ _)); exact BK116.out), (by repeat (first | (with_reducible exact HR156.out) | (with_reducible refine Kd.C_alloc ?_ _) | (with_reducible refine Kd.C_drewN ?_ _) | (with_reducible refine Kd.C_drew ?_) | exact HR156.out)), (by repeat (first | (with_reducible exact HR163.out) | (with_reducible refine Kd.C_alloc ?_ _) | (with_reducible refine Kd.C_drewN ?_ _) | (with_reducible refine Kd.C_drew ?_) | exact HR163.out)), (by repeat (first | (with_reducible exact HR173.out) | (with_reducible refine Kd.C_alloc ?_ _) | (with_reducible refine Kd.C_drewN ?_ _) | (with_reducible refine Kd.C_drew ?_) | exact HR173.out)), (by repeat (first | (with_reducible exact HR180.out) | (with_reducible refine Kd.C_alloc ?_ _) | (with_reducible refine Kd.C_drewN ?_ _) | (with_reducible refine Kd.C_drew ?_) | exact HR180.out)), (by repeat (first | (with_reducible first | exact HI114.out | apply IsS69.alloc | apply IsS69.drewN | apply IsS69.drew | refine IsS69.far ?_ (by (repeat (first | exact (Opq.NP.blk BK116.out (by decide)) | (with_reducible apply Opq.NP.setCell) | (with_reducible apply Opq.NP.drewN) | (with_reducible apply Opq.NP.drew) | (with_reducible apply Opq.NP.alloc))); done) _) | exact HI114.out)), (by repeat (first | (with_reducible first | exact HB.out | apply below_alloc | apply pw_below_drewN | apply below_drew1 | refine below_set ?_ (IsS69.ge HI114.out) | refine below_set ?_ GE116.out) | exact HB.out))⟩)
   rintro ⟨v151, v158, v165, v168⟩ w134 ⟨h0_, h1_, h2_, h3_, h4_, h5_, h6_, h7_, h8_, h9_, h10_⟩
   have n0_ : Aside0 (Kd.R Kd.string 9 w134 w.heap.size (fun k_ => some k_ ≠ (.slice Ao123 x4_32.length co123 : Value).ownBlock) v165 y164) := ⟨h0_⟩
   have n1_ : Aside0 (Kd.R (Kd.int .i64) 3 w134 w.heap.size (fun k_ => some k_ ≠ (.slice Ao126 x5_32.length co126 : Value).ownBlock) v168 y167) := ⟨h1_⟩
   have n2_ : Aside0 (Kd.R Kd.string 9 w134 w.heap.size (fun k_ => some k_ ≠ (v165 : Value).ownBlock) (.slice Ao123 x4_32.length co123) x4_32) := ⟨h2_⟩
   have n3_ : Aside0 (Kd.R (Kd.int .i64) 3 w134 w.heap.size (fun k_ => some k_ ≠ (v168 : Value).ownBlock) (.slice Ao126 x5_32.length co126) x5_32) := ⟨h3_⟩
   have n4_ : Aside0 (w134.heap[gb116]? = some (.cells #[.int .i64 ((rd_T36 l0 x6_1).f0), .int .i64 ((rd_T36 l0 x6_1).f1), .string ((rd_T36 l0 x6_1).f2)] 36 (0, 0))) := ⟨h4_⟩
   have n5_ : Aside0 (Kd.C Kd.string w134 Ao123 y153.length y153) := ⟨h5_⟩
   have n6_ : Aside0 (Kd.C Kd.string w134 A124 y160.length y160) := ⟨h6_⟩
   have n7_ : Aside0 (Kd.C (Kd.int .i64) w134 Ao126 y170.length y170) := ⟨h7_⟩
   have n8_ : Aside0 (Kd.C (Kd.int .i64) w134 A127 y177.length y177) := ⟨h8_⟩
   have n9_ : Aside0 (IsS69 w w134 g114 x115000_32) := ⟨h9_⟩
   have n10_ : Aside0 (Below w.heap.size w w134) := ⟨h10_⟩
   clear HO_4 HO_5 BK116 HI114 HB h0_ h1_ h2_ h3_ h4_ h5_ h6_ h7_ h8_ h9_ h10_
   have HO166 := n0_; have HO169 := n1_; have HO_4 := n2_; have HO_5 := n3_; have BK116 := n4_; have HR156 := n5_; have HR163 := n6_; have HR173 := n7_; have HR180 := n8_; have HI114 := n9_; have HB := n10_
   clear n0_ n1_ n2_ n3_ n4_ n5_ n6_ n7_ n8_ n9_ n10_
   have hHeld := trivial
   refine norm_ (a' := ?_) ?_ ?_
   rotate_left
   ·simp only [putAll, Act.put, List.setIfInBounds_toArray, List.set_cons_zero, List.set_cons_succ]
    rfl
   refine one_ (i := 14) (N := some 218) #[T_,T_,T_,T_,T_,T_,T_,T_,T_,T_,T_,T_,T_,T_,T_,T_,T_,T_,T_,F_,F_,F_] rfl rfl (one_of HT_.out (by kernel_rfl)) (by decide) (fun K hK => ?_)
   refine Kd.R_append_rows_step (Kd.int .i64) (w0 := w) w.heap.size (by rfl) (.tmp 214) (.tmp 217) 34 3 (.int .i64 0) 8 rfl Try.underlying34 info3 rfl (by decide) (by omega) v168 y167 y170 _ _ _ (fun k_ => some k_ ≠ (.slice Ao126 x5_32.length co126 : Value).ownBlock) (fun _ => False) rfl rfl ?aO ?aR (fun _ _ h => h) (fun _ h => h.elim) ?aF ?aB ?aS ?aL ?_
   (case aR => repeat (first | exact (by repeat (first | (with_reducible exact HR173.out) | (with_reducible refine Kd.C_alloc ?_ _) | (with_reducible refine Kd.C_drewN ?_ _) | (with_reducible refine Kd.C_drew ?_) | exact HR173.out)) | (with_reducible refine Kd.C_alloc ?_ _) | (with_reducible refine Kd.C_drewN ?_ _) | (with_reducible refine Kd.C_drew ?_)))
   (case aB => exact (by repeat (first | (with_reducible first | exact HB.out | apply below_alloc | apply pw_below_drewN | apply below_drew1 | refine below_set ?_ (IsS69.ge HI114.out) | refine below_set ?_ GE116.out) | exact HB.out)))
   (case aF => exact (fun k_ hk => Kd.fresh' (Kd.R_lt (by (with_reducible repeat (first|apply Kd.R_alloc|apply Kd.R_drewN|apply Kd.R_drew)); exact HO_5.out)) k_ hk))
   (case aO => exact (by (with_reducible repeat (first|apply Kd.R_alloc|apply Kd.R_drewN|apply Kd.R_drew)); exact HO169.out))
   (case aS => exact (below_size (by repeat (first | (with_reducible first | exact HB.out | apply below_alloc | apply pw_below_drewN | apply below_drew1 | refine below_set ?_ (IsS69.ge HI114.out) | refine below_set ?_ GE116.out) | exact HB.out))))
   (case aL => have := LMc117.out; omega)
   intro v175 w135 ho hb hg hat
   rw [← Ny174.out] at ho
   have n0_ := Aside0.mk (Kd.R_over' (by (with_reducible repeat (first|apply Kd.R_alloc|apply Kd.R_drewN|apply Kd.R_drew)); exact HO_4.out) (Kd.R_typed (by (with_reducible repeat (first|apply Kd.R_alloc|apply Kd.R_drewN|apply Kd.R_drew)); exact HO169.out)) (by decide) hg)
   have n1_ := Aside0.mk (Kd.R_after (ok := (fun _ => True)) (by (with_reducible repeat (first|apply Kd.R_alloc|apply Kd.R_drewN|apply Kd.R_drew)); exact Kd.R_mono HO_5.out (fun _ hk => ⟨trivial, hk⟩)) hg hat)
   have n2_ := Aside0.mk (blk_grown (g := gb116) (o := .cells #[.int .i64 ((rd_T36 l0 x6_1).f0), .int .i64 ((rd_T36 l0 x6_1).f1), .string ((rd_T36 l0 x6_1).f2)] 36 (0, 0)) (by (with_reducible repeat (first | refine blk_drewN ?_ _ | refine blk_drew ?_ | refine blk_alloc ?_ _)); exact BK116.out) hg (Kd.R_ne HO169.out BK116.out (by decide)))
   have n3_ := Aside0.mk (IsS69.grown (by repeat (first | (with_reducible first | exact HI114.out | apply IsS69.alloc | apply IsS69.drewN | apply IsS69.drew | refine IsS69.far ?_ (by (repeat (first | exact (Opq.NP.blk BK116.out (by decide)) | (with_reducible apply Opq.NP.setCell) | (with_reducible apply Opq.NP.drewN) | (with_reducible apply Opq.NP.drew) | (with_reducible apply Opq.NP.alloc))); done) _) | exact HI114.out)) hg (by (repeat (first | exact (Opq.NPr.typed (Kd.R_typed HO169.out) (by decide)) | (with_reducible apply Opq.NPr.setCell) | (with_reducible apply Opq.NPr.drewN) | (with_reducible apply Opq.NPr.drew) | (with_reducible apply Opq.NPr.alloc))); done))
   have n4_ := Aside0.mk (Kd.R_over' (by (with_reducible repeat (first|apply Kd.R_alloc|apply Kd.R_drewN|apply Kd.R_drew)); exact HO166.out) (Kd.R_typed (by (with_reducible repeat (first|apply Kd.R_alloc|apply Kd.R_drewN|apply Kd.R_drew)); exact HO169.out)) (by decide) hg)
   have n5_ := Aside0.mk (hb)
   have n6_ := Aside0.mk ((show Kd.C Kd.string w135 Ao123 y153.length y153 from by rw [Ny153.out]; exact Kd.C_take (m := (x8_32 : Int).toNat) ((Kd.R_reads' (Kd.R_over' (by (with_reducible repeat (first|apply Kd.R_alloc|apply Kd.R_drewN|apply Kd.R_drew)); exact HO_4.out) (Kd.R_typed (by (with_reducible repeat (first|apply Kd.R_alloc|apply Kd.R_drewN|apply Kd.R_drew)); exact HO169.out)) (by decide) hg)).2.2) KL122.out))
   have n7_ := Aside0.mk ((show Kd.C Kd.string w135 A124 y160.length y160 from by rw [Ny160.out, KA124.out]; exact Kd.C_drop (m := ((ji111) : Int).toNat) (c := co123) ((Kd.R_reads' (Kd.R_over' (by (with_reducible repeat (first|apply Kd.R_alloc|apply Kd.R_drewN|apply Kd.R_drew)); exact HO_4.out) (Kd.R_typed (by (with_reducible repeat (first|apply Kd.R_alloc|apply Kd.R_drewN|apply Kd.R_drew)); exact HO169.out)) (by decide) hg)).2.2) KL124.out ((Kd.R_reads' (Kd.R_over' (by (with_reducible repeat (first|apply Kd.R_alloc|apply Kd.R_drewN|apply Kd.R_drew)); exact HO_4.out) (Kd.R_typed (by (with_reducible repeat (first|apply Kd.R_alloc|apply Kd.R_drewN|apply Kd.R_drew)); exact HO169.out)) (by decide) hg)).2.1)))
   have n8_ := Aside0.mk ((show Kd.C (Kd.int .i64) w135 Ao126 y170.length y170 from by rw [Ny170.out]; exact Kd.C_take (m := (x8_32 : Int).toNat) ((Kd.R_reads' (Kd.R_after (ok := (fun _ => True)) (by (with_reducible repeat (first|apply Kd.R_alloc|apply Kd.R_drewN|apply Kd.R_drew)); exact Kd.R_mono HO_5.out (fun _ hk => ⟨trivial, hk⟩)) hg hat)).2.2) KL125.out))
   have n9_ := Aside0.mk ((show Kd.C (Kd.int .i64) w135 A127 y177.length y177 from by rw [Ny177.out, KA127.out]; exact Kd.C_drop (m := ((ji111) : Int).toNat) (c := co126) ((Kd.R_reads' (Kd.R_after (ok := (fun _ => True)) (by (with_reducible repeat (first|apply Kd.R_alloc|apply Kd.R_drewN|apply Kd.R_drew)); exact Kd.R_mono HO_5.out (fun _ hk => ⟨trivial, hk⟩)) hg hat)).2.2) KL127.out ((Kd.R_reads' (Kd.R_after (ok := (fun _ => True)) (by (with_reducible repeat (first|apply Kd.R_alloc|apply Kd.R_drewN|apply Kd.R_drew)); exact Kd.R_mono HO_5.out (fun _ hk => ⟨trivial, hk⟩)) hg hat)).2.1)))
   have n10_ := Aside0.mk (ho)
   clear HO_4 HO_5 BK116 HI114 HO166 HB HR156 HR163 HR173 HR180 HO169
   have HO_4 := n0_; have HO_5 := n1_; have BK116 := n2_; have HI114 := n3_; have HO166 := n4_; have HB := n5_; have HR156 := n6_; have HR163 := n7_; have HR173 := n8_; have HR180 := n9_; have HO176 := n10_
   clear n0_ n1_ n2_ n3_ n4_ n5_ n6_ n7_ n8_ n9_ n10_ ho hb hg hat
   refine hK.out _ _ trivial (fun hHeld => ?_)
   clear hK K
   refine norm_ (a' := ?_) ?_ ?_
   rotate_left
   ·show Act.put _ (some 218) _ = _
    simp only [Act.put, q1_, q2_, q3_, i64_w, i32_w]
    rfl
   refine one_ (i := 19) (N := some 223) #[T_,T_,T_,T_,T_,T_,T_,T_,T_,T_,T_,T_,T_,T_,T_,T_,T_,T_,T_,T_,F_,F_] rfl rfl (one_of HT_.out (by kernel_rfl)) (by decide) (fun K hK => ?_)
   refine Kd.R_append_rows_step (Kd.int .i64) (w0 := w) w.heap.size (by rfl) (.tmp 218) (.tmp 222) 34 3 (.int .i64 0) 8 rfl Try.underlying34 info3 rfl (by decide) (by omega) v175 y174 y177 _ _ _ (fun k_ => some k_ ≠ (.slice Ao126 x5_32.length co126 : Value).ownBlock) (fun _ => False) rfl rfl ?aO ?aR (fun _ _ h => h) (fun _ h => h.elim) ?aF ?aB ?aS ?aL ?_
   (case aR => repeat (first | exact (by repeat (first | (with_reducible exact HR180.out) | (with_reducible refine Kd.C_alloc ?_ _) | (with_reducible refine Kd.C_drewN ?_ _) | (with_reducible refine Kd.C_drew ?_) | exact HR180.out)) | (with_reducible refine Kd.C_alloc ?_ _) | (with_reducible refine Kd.C_drewN ?_ _) | (with_reducible refine Kd.C_drew ?_)))
   (case aB => exact (by repeat (first | (with_reducible first | exact HB.out | apply below_alloc | apply pw_below_drewN | apply below_drew1 | refine below_set ?_ (IsS69.ge HI114.out) | refine below_set ?_ GE116.out) | exact HB.out)))
   (case aF => exact (fun k_ hk => Kd.fresh' (Kd.R_lt (by (with_reducible repeat (first|apply Kd.R_alloc|apply Kd.R_drewN|apply Kd.R_drew)); exact HO_5.out)) k_ hk))
   (case aO => exact (by (with_reducible repeat (first|apply Kd.R_alloc|apply Kd.R_drewN|apply Kd.R_drew)); exact HO176.out))
   (case aS => exact (below_size (by repeat (first | (with_reducible first | exact HB.out | apply below_alloc | apply pw_below_drewN | apply below_drew1 | refine below_set ?_ (IsS69.ge HI114.out) | refine below_set ?_ GE116.out) | exact HB.out))))
   (case aL => have := LMc120.out; omega)
   intro v182 w136 ho hb hg hat
   rw [← Ny181.out] at ho
   have n0_ := Aside0.mk (Kd.R_over' (by (with_reducible repeat (first|apply Kd.R_alloc|apply Kd.R_drewN|apply Kd.R_drew)); exact HO_4.out) (Kd.R_typed (by (with_reducible repeat (first|apply Kd.R_alloc|apply Kd.R_drewN|apply Kd.R_drew)); exact HO176.out)) (by decide) hg)
   have n1_ := Aside0.mk (Kd.R_after (ok := (fun _ => True)) (by (with_reducible repeat (first|apply Kd.R_alloc|apply Kd.R_drewN|apply Kd.R_drew)); exact HO_5.out) hg hat)
   have n2_ := Aside0.mk (blk_grown (g := gb116) (o := .cells #[.int .i64 ((rd_T36 l0 x6_1).f0), .int .i64 ((rd_T36 l0 x6_1).f1), .string ((rd_T36 l0 x6_1).f2)] 36 (0, 0)) (by (with_reducible repeat (first | refine blk_drewN ?_ _ | refine blk_drew ?_ | refine blk_alloc ?_ _)); exact BK116.out) hg (Kd.R_ne HO176.out BK116.out (by decide)))
   have n3_ := Aside0.mk (IsS69.grown (by repeat (first | (with_reducible first | exact HI114.out | apply IsS69.alloc | apply IsS69.drewN | apply IsS69.drew | refine IsS69.far ?_ (by (repeat (first | exact (Opq.NP.blk BK116.out (by decide)) | (with_reducible apply Opq.NP.setCell) | (with_reducible apply Opq.NP.drewN) | (with_reducible apply Opq.NP.drew) | (with_reducible apply Opq.NP.alloc))); done) _) | exact HI114.out)) hg (by (repeat (first | exact (Opq.NPr.typed (Kd.R_typed HO176.out) (by decide)) | (with_reducible apply Opq.NPr.setCell) | (with_reducible apply Opq.NPr.drewN) | (with_reducible apply Opq.NPr.drew) | (with_reducible apply Opq.NPr.alloc))); done))
   have n4_ := Aside0.mk (Kd.R_over' (by (with_reducible repeat (first|apply Kd.R_alloc|apply Kd.R_drewN|apply Kd.R_drew)); exact HO166.out) (Kd.R_typed (by (with_reducible repeat (first|apply Kd.R_alloc|apply Kd.R_drewN|apply Kd.R_drew)); exact HO176.out)) (by decide) hg)
   have n5_ := Aside0.mk (hb)
   have n6_ := Aside0.mk ((show Kd.C Kd.string w136 Ao123 y153.length y153 from by rw [Ny153.out]; exact Kd.C_take (m := (x8_32 : Int).toNat) ((Kd.R_reads' (Kd.R_over' (by (with_reducible repeat (first|apply Kd.R_alloc|apply Kd.R_drewN|apply Kd.R_drew)); exact HO_4.out) (Kd.R_typed (by (with_reducible repeat (first|apply Kd.R_alloc|apply Kd.R_drewN|apply Kd.R_drew)); exact HO176.out)) (by decide) hg)).2.2) KL122.out))
   have n7_ := Aside0.mk ((show Kd.C Kd.string w136 A124 y160.length y160 from by rw [Ny160.out, KA124.out]; exact Kd.C_drop (m := ((ji111) : Int).toNat) (c := co123) ((Kd.R_reads' (Kd.R_over' (by (with_reducible repeat (first|apply Kd.R_alloc|apply Kd.R_drewN|apply Kd.R_drew)); exact HO_4.out) (Kd.R_typed (by (with_reducible repeat (first|apply Kd.R_alloc|apply Kd.R_drewN|apply Kd.R_drew)); exact HO176.out)) (by decide) hg)).2.2) KL124.out ((Kd.R_reads' (Kd.R_over' (by (with_reducible repeat (first|apply Kd.R_alloc|apply Kd.R_drewN|apply Kd.R_drew)); exact HO_4.out) (Kd.R_typed (by (with_reducible repeat (first|apply Kd.R_alloc|apply Kd.R_drewN|apply Kd.R_drew)); exact HO176.out)) (by decide) hg)).2.1)))
   have n8_ := Aside0.mk ((show Kd.C (Kd.int .i64) w136 Ao126 y170.length y170 from by rw [Ny170.out]; exact Kd.C_take (m := (x8_32 : Int).toNat) ((Kd.R_reads' (Kd.R_after (ok := (fun _ => True)) (by (with_reducible repeat (first|apply Kd.R_alloc|apply Kd.R_drewN|apply Kd.R_drew)); exact HO_5.out) hg hat)).2.2) KL125.out))
   have n9_ := Aside0.mk ((show Kd.C (Kd.int .i64) w136 A127 y177.length y177 from by rw [Ny177.out, KA127.out]; exact Kd.C_drop (m := ((ji111) : Int).toNat) (c := co126) ((Kd.R_reads' (Kd.R_after (ok := (fun _ => True)) (by (with_reducible repeat (first|apply Kd.R_alloc|apply Kd.R_drewN|apply Kd.R_drew)); exact HO_5.out) hg hat)).2.2) KL127.out ((Kd.R_reads' (Kd.R_after (ok := (fun _ => True)) (by (with_reducible repeat (first|apply Kd.R_alloc|apply Kd.R_drewN|apply Kd.R_drew)); exact HO_5.out) hg hat)).2.1)))
   have n10_ := Aside0.mk (ho)
   clear HO_4 HO_5 BK116 HI114 HO166 HB HR156 HR163 HR173 HR180 HO176
   have HO_4 := n0_; have HO_5 := n1_; have BK116 := n2_; have HI114 := n3_; have HO166 := n4_; have HB := n5_; have HR156 := n6_; have HR163 := n7_; have HR173 := n8_; have HR180 := n9_; have HO183 := n10_
   clear n0_ n1_ n2_ n3_ n4_ n5_ n6_ n7_ n8_ n9_ n10_ ho hb hg hat
   refine hK.out _ _ trivial (fun hHeld => ?_)
   clear hK K
   refine norm_ (a' := ?_) ?_ ?_
   rotate_left
   ·show Act.put _ (some 223) _ = _
    simp only [Act.put, q1_, q2_, q3_, i64_w, i32_w]
    rfl
   refine pure_ (i := 20) (N := some 4) (v := ?_) (a' := ?_) #[T_,T_,T_,T_,T_,T_,T_,T_,T_,T_,T_,T_,T_,T_,T_,T_,T_,T_,T_,T_,T_,F_] rfl rfl (any_of HT_.out (by kernel_rfl)) (fun _ _ _ h => h) (Or.inl ⟨by rfl, ?_⟩) ?_ ?_
   rotate_left
   ·intro w'
    go_simp
    with_reducible rfl
   rotate_left
   ·simp only [Act.put, q1_, q2_, q3_, i64_w, i32_w]
    rfl
   refine pure_ (i := 21) (N := some 5) (v := ?_) (a' := ?_) #[T_,T_,T_,T_,T_,T_,T_,T_,T_,T_,T_,T_,T_,T_,T_,T_,T_,T_,T_,T_,T_,T_] rfl rfl (any_of HT_.out (by kernel_rfl)) (fun _ _ _ h => h) (Or.inl ⟨by rfl, ?_⟩) ?_ ?_
   rotate_left
   ·intro w'
    go_simp
    with_reducible rfl
   rotate_left
   ·simp only [Act.put, q1_, q2_, q3_, i64_w, i32_w]
    rfl
   refine done_ (done_of HT_.out (by kernel_rfl)) ?_
   try go_wp2
   go_roundg kj32
   case measure => have := HK1.out; have := HK2.out; have := HJ19.out; have := HJ32.out; omega
   case rel => exact ⟨(y164), (y181), (wrap64 (x6_1 + 1)), (x115000_32), (by first | rfl | (simp; done) | (simp [*]; done)), H', ⟨by have := HK1.out; have := HK2.out; have := HJ19.out; have := HJ32.out; omega⟩, ⟨by (with_reducible repeat (first | apply Kd.R_alloc | apply Kd.R_drewN | apply Kd.R_drew)); exact Kd.R_mono HO166.out (fun _ hk => trivial)⟩, ⟨by (with_reducible repeat (first | apply Kd.R_alloc | apply Kd.R_drewN | apply Kd.R_drew)); exact Kd.R_mono HO183.out (fun _ hk => trivial)⟩, ⟨by repeat (first | (with_reducible first | exact HI114.out | apply IsS69.alloc | apply IsS69.drewN | apply IsS69.drew | refine IsS69.far ?_ (by (repeat (first | exact (Opq.NP.blk BK116.out (by decide)) | (with_reducible apply Opq.NP.setCell) | (with_reducible apply Opq.NP.drewN) | (with_reducible apply Opq.NP.drew) | (with_reducible apply Opq.NP.alloc))); done) _) | exact HI114.out)⟩, ⟨by repeat (first | (with_reducible first | exact HB.out | apply below_alloc | apply pw_below_drewN | apply below_drew1 | refine below_set ?_ (IsS69.ge HI114.out) | refine below_set ?_ GE116.out) | exact HB.out)⟩⟩

def interregnumlaw17_TimerPlays.f := TP.f
theorem interregnumlaw17_TimerPlays.calls : type_of% @TP.calls := @TP.calls
end Go.Proofs.Yteheclbneoodeaa.PTimerPlays
