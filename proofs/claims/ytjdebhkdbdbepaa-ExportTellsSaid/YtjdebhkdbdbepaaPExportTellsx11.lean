-- Lean text by a program of this repo (wip/tools/printx.py), out of Lean's own print of the translation
import Derived.Test.YtjdebhkdbdbepaaPExportTellsx0
import Derived.Test.YtjdebhkdbdbepaaPExportTellsx9
import Derived.Test.YtjdebhkdbdbepaaPExportTellsx10
namespace Go.Proofs.Ytjdebhkdbdbepaa.PExportTells
open Go.RowKit Go.Proofs.YtjdebhkdbdbepaaW.PrintWords Go.Proofs.YtjdebhkdbdbepaaW.PrintLast Go.Proofs.YtjdebhkdbdbepaaW.PrintMore
attribute [local go_sem] max2_int min2_int max_two min_two max_three min_three max_four min_four   -- for this text's walks alone
set_option linter.unusedVariables false
set_option linter.unusedSimpArgs false

/-! ### interregnumref05_GoodAttrs: function 28 -/
mutual
def interregnumref05_GoodAttrs.j0 : Nat → Bool → Int → List (S69) → Int → Int → Int → List Int → List (S73) → Option (Bool)
  | 0, _, _, _, _, _, _, _, _ => none
  | k + 1, x53, x181000, x181001, x181002, x181003, x181004, x181005, x181006 => if x53 = true then (some false) else (interregnumref05_GoodAttrs.l0 k 0 x181000 x181001 x181002 x181003 x181004 x181005 x181006)
def interregnumref05_GoodAttrs.l0 : Nat → Int → Int → List (S69) → Int → Int → Int → List Int → List (S73) → Option (Bool)
  | 0, _, _, _, _, _, _, _, _ => none
  | k + 1, x3, x181000, x181001, x181002, x181003, x181004, x181005, x181006 => if x3 < (x181006.length : Int) then (if 0 ≤ x3 then (if ((rd_T73 x181006 x3).f1) = 6 then (if ((rd_T73 x181006 x3).f0) = 64 then (interregnumref05_GoodAttrs.j2 k x3 ((((rd_T73 x181006 x3).f2).length : Int) == 0) x181000 x181001 x181002 x181003 x181004 x181005 x181006 ((rd_T73 x181006 x3).f0) ((rd_T73 x181006 x3).f1) ((rd_T73 x181006 x3).f2)) else (interregnumref05_GoodAttrs.j2 k x3 false x181000 x181001 x181002 x181003 x181004 x181005 x181006 ((rd_T73 x181006 x3).f0) ((rd_T73 x181006 x3).f1) ((rd_T73 x181006 x3).f2))) else (interregnumref05_GoodAttrs.j2 k x3 false x181000 x181001 x181002 x181003 x181004 x181005 x181006 ((rd_T73 x181006 x3).f0) ((rd_T73 x181006 x3).f1) ((rd_T73 x181006 x3).f2))) else (none)) else (some true)
def interregnumref05_GoodAttrs.j2 : Nat → Int → Bool → Int → List (S69) → Int → Int → Int → List Int → List (S73) → Int → Int → List Int → Option (Bool)
  | 0, _, _, _, _, _, _, _, _, _, _, _, _ => none
  | k + 1, x3, x5, x181000, x181001, x181002, x181003, x181004, x181005, x181006, x185000, x185001, x185002 => if x185001 = 7 then (if x185000 = 192 then (interregnumref05_GoodAttrs.j3 k x3 x5 ((x185002.length : Int) == 8) x181000 x181001 x181002 x181003 x181004 x181005 x181006 x185000 x185001 x185002) else (interregnumref05_GoodAttrs.j3 k x3 x5 false x181000 x181001 x181002 x181003 x181004 x181005 x181006 x185000 x185001 x185002)) else (interregnumref05_GoodAttrs.j3 k x3 x5 false x181000 x181001 x181002 x181003 x181004 x181005 x181006 x185000 x185001 x185002)
def interregnumref05_GoodAttrs.j3 : Nat → Int → Bool → Bool → Int → List (S69) → Int → Int → Int → List Int → List (S73) → Int → Int → List Int → Option (Bool)
  | 0, _, _, _, _, _, _, _, _, _, _, _, _, _ => none
  | k + 1, x3, x5, x6, x181000, x181001, x181002, x181003, x181004, x181005, x181006, x185000, x185001, x185002 => if x185001 > 8 then (if x185001 ≤ 255 then (if x185000 = 224 then (interregnumref05_GoodAttrs.j4 k x3 x5 x6 (decide ((x185002.length : Int) ≤ 255)) x181000 x181001 x181002 x181003 x181004 x181005 x181006 x185000 x185001 x185002) else (interregnumref05_GoodAttrs.j4 k x3 x5 x6 false x181000 x181001 x181002 x181003 x181004 x181005 x181006 x185000 x185001 x185002)) else (interregnumref05_GoodAttrs.j4 k x3 x5 x6 false x181000 x181001 x181002 x181003 x181004 x181005 x181006 x185000 x185001 x185002)) else (interregnumref05_GoodAttrs.j4 k x3 x5 x6 false x181000 x181001 x181002 x181003 x181004 x181005 x181006 x185000 x185001 x185002)
def interregnumref05_GoodAttrs.j4 : Nat → Int → Bool → Bool → Bool → Int → List (S69) → Int → Int → Int → List Int → List (S73) → Int → Int → List Int → Option (Bool)
  | 0, _, _, _, _, _, _, _, _, _, _, _, _, _, _ => none
  | k + 1, x3, x5, x6, x7, x181000, x181001, x181002, x181003, x181004, x181005, x181006, x185000, x185001, x185002 => if x5 = true then (if x3 > 0 then (if 0 ≤ (wrap64 (x3 - 1)) then (if (wrap64 (x3 - 1)) < (x181006.length : Int) then (interregnumref05_GoodAttrs.j5 k x3 (decide (((rd_T73 x181006 (wrap64 (x3 - 1))).f1) ≥ x185001)) x181000 x181001 x181002 x181003 x181004 x181005 x181006) else (none)) else (none)) else (interregnumref05_GoodAttrs.j5 k x3 false x181000 x181001 x181002 x181003 x181004 x181005 x181006)) else (if x6 = true then (if x3 > 0 then (if 0 ≤ (wrap64 (x3 - 1)) then (if (wrap64 (x3 - 1)) < (x181006.length : Int) then (interregnumref05_GoodAttrs.j5 k x3 (decide (((rd_T73 x181006 (wrap64 (x3 - 1))).f1) ≥ x185001)) x181000 x181001 x181002 x181003 x181004 x181005 x181006) else (none)) else (none)) else (interregnumref05_GoodAttrs.j5 k x3 false x181000 x181001 x181002 x181003 x181004 x181005 x181006)) else (if x7 = true then (if x3 > 0 then (if 0 ≤ (wrap64 (x3 - 1)) then (if (wrap64 (x3 - 1)) < (x181006.length : Int) then (interregnumref05_GoodAttrs.j5 k x3 (decide (((rd_T73 x181006 (wrap64 (x3 - 1))).f1) ≥ x185001)) x181000 x181001 x181002 x181003 x181004 x181005 x181006) else (none)) else (none)) else (interregnumref05_GoodAttrs.j5 k x3 false x181000 x181001 x181002 x181003 x181004 x181005 x181006)) else (interregnumref05_GoodAttrs.j5 k x3 true x181000 x181001 x181002 x181003 x181004 x181005 x181006)))
def interregnumref05_GoodAttrs.j5 : Nat → Int → Bool → Int → List (S69) → Int → Int → Int → List Int → List (S73) → Option (Bool)
  | 0, _, _, _, _, _, _, _, _, _ => none
  | k + 1, x3, x138, x181000, x181001, x181002, x181003, x181004, x181005, x181006 => if x138 = true then (some false) else (interregnumref05_GoodAttrs.l0 k (wrap64 (x3 + 1)) x181000 x181001 x181002 x181003 x181004 x181005 x181006)
end
def interregnumref05_GoodAttrs.f (k : Nat) (a0_0 : Int) (l0_1 : List (S69)) (a0_2 : Int) (a0_3 : Int) (a0_4 : Int) (l0_5 : List Int) (l0_6 : List (S73)) : Option (Bool) := if a0_0 < 0 then (interregnumref05_GoodAttrs.j0 k true a0_0 l0_1 a0_2 a0_3 a0_4 l0_5 l0_6) else (if a0_0 > 2 then (interregnumref05_GoodAttrs.j0 k true a0_0 l0_1 a0_2 a0_3 a0_4 l0_5 l0_6) else ((interregnumref05_GoodPath.f k l0_1).bind fun t181 => (if t181 = true then ((interregnumref05_Hop.f a0_2).bind fun t182 => (if t182 = true then (if a0_3 < (-1) then (interregnumref05_GoodAttrs.j0 k true a0_0 l0_1 a0_2 a0_3 a0_4 l0_5 l0_6) else (if a0_3 > 4294967295 then (interregnumref05_GoodAttrs.j0 k true a0_0 l0_1 a0_2 a0_3 a0_4 l0_5 l0_6) else (if a0_4 < (-1) then (interregnumref05_GoodAttrs.j0 k true a0_0 l0_1 a0_2 a0_3 a0_4 l0_5 l0_6) else (if a0_4 > 4294967295 then (interregnumref05_GoodAttrs.j0 k true a0_0 l0_1 a0_2 a0_3 a0_4 l0_5 l0_6) else (interregnumref05_GoodAttrs.j0 k (decide ((l0_5.length : Int) > 32)) a0_0 l0_1 a0_2 a0_3 a0_4 l0_5 l0_6))))) else (interregnumref05_GoodAttrs.j0 k true a0_0 l0_1 a0_2 a0_3 a0_4 l0_5 l0_6))) else (interregnumref05_GoodAttrs.j0 k true a0_0 l0_1 a0_2 a0_3 a0_4 l0_5 l0_6))))
theorem interregnumref05_GoodAttrs.mono_l : ∀ k, (∀ y0 y1 y2 y3 y4 y5 y6 y7, LeO (interregnumref05_GoodAttrs.j0 k y0 y1 y2 y3 y4 y5 y6 y7) (interregnumref05_GoodAttrs.j0 (k + 1) y0 y1 y2 y3 y4 y5 y6 y7)) ∧ (∀ y0 y1 y2 y3 y4 y5 y6 y7, LeO (interregnumref05_GoodAttrs.l0 k y0 y1 y2 y3 y4 y5 y6 y7) (interregnumref05_GoodAttrs.l0 (k + 1) y0 y1 y2 y3 y4 y5 y6 y7)) ∧ (∀ y0 y1 y2 y3 y4 y5 y6 y7 y8 y9 y10 y11, LeO (interregnumref05_GoodAttrs.j2 k y0 y1 y2 y3 y4 y5 y6 y7 y8 y9 y10 y11) (interregnumref05_GoodAttrs.j2 (k + 1) y0 y1 y2 y3 y4 y5 y6 y7 y8 y9 y10 y11)) ∧ (∀ y0 y1 y2 y3 y4 y5 y6 y7 y8 y9 y10 y11 y12, LeO (interregnumref05_GoodAttrs.j3 k y0 y1 y2 y3 y4 y5 y6 y7 y8 y9 y10 y11 y12) (interregnumref05_GoodAttrs.j3 (k + 1) y0 y1 y2 y3 y4 y5 y6 y7 y8 y9 y10 y11 y12)) ∧ (∀ y0 y1 y2 y3 y4 y5 y6 y7 y8 y9 y10 y11 y12 y13, LeO (interregnumref05_GoodAttrs.j4 k y0 y1 y2 y3 y4 y5 y6 y7 y8 y9 y10 y11 y12 y13) (interregnumref05_GoodAttrs.j4 (k + 1) y0 y1 y2 y3 y4 y5 y6 y7 y8 y9 y10 y11 y12 y13)) ∧ (∀ y0 y1 y2 y3 y4 y5 y6 y7 y8, LeO (interregnumref05_GoodAttrs.j5 k y0 y1 y2 y3 y4 y5 y6 y7 y8) (interregnumref05_GoodAttrs.j5 (k + 1) y0 y1 y2 y3 y4 y5 y6 y7 y8))
  | 0 => ⟨fun _ _ _ _ _ _ _ _ r h => by simp [interregnumref05_GoodAttrs.j0] at h, fun _ _ _ _ _ _ _ _ r h => by simp [interregnumref05_GoodAttrs.l0] at h, fun _ _ _ _ _ _ _ _ _ _ _ _ r h => by simp [interregnumref05_GoodAttrs.j2] at h, fun _ _ _ _ _ _ _ _ _ _ _ _ _ r h => by simp [interregnumref05_GoodAttrs.j3] at h, fun _ _ _ _ _ _ _ _ _ _ _ _ _ _ r h => by simp [interregnumref05_GoodAttrs.j4] at h, fun _ _ _ _ _ _ _ _ _ r h => by simp [interregnumref05_GoodAttrs.j5] at h⟩
  | k + 1 => by
    obtain ⟨ih0, ih1, ih2, ih3, ih4, ih5⟩ := interregnumref05_GoodAttrs.mono_l k
    refine ⟨?_, ?_, ?_, ?_, ?_, ?_⟩
    · intro y0 y1 y2 y3 y4 y5 y6 y7
      unfold interregnumref05_GoodAttrs.j0
      repeat' first
      | (with_reducible exact ih0 _ _ _ _ _ _ _ _)
      | (with_reducible exact ih1 _ _ _ _ _ _ _ _)
      | (with_reducible exact ih2 _ _ _ _ _ _ _ _ _ _ _ _)
      | (with_reducible exact ih3 _ _ _ _ _ _ _ _ _ _ _ _ _)
      | (with_reducible exact ih4 _ _ _ _ _ _ _ _ _ _ _ _ _ _)
      | (with_reducible exact ih5 _ _ _ _ _ _ _ _ _)
      | (with_reducible exact interregnumref05_GoodPath.mono _ _)
      | (with_reducible exact LeO.refl _)
      | (with_reducible exact LeO.none _)
      | (with_reducible refine LeO.ite ?_ ?_)
      | (with_reducible refine LeO.bind ?_ (fun _ => ?_))
      | exact ih0 _ _ _ _ _ _ _ _
      | exact ih1 _ _ _ _ _ _ _ _
      | exact ih2 _ _ _ _ _ _ _ _ _ _ _ _
      | exact ih3 _ _ _ _ _ _ _ _ _ _ _ _ _
      | exact ih4 _ _ _ _ _ _ _ _ _ _ _ _ _ _
      | exact ih5 _ _ _ _ _ _ _ _ _
      | exact interregnumref05_GoodPath.mono _ _
      | exact LeO.none _
      | refine LeO.ite ?_ ?_
      | refine LeO.bind ?_ (fun _ => ?_)
    · intro y0 y1 y2 y3 y4 y5 y6 y7
      unfold interregnumref05_GoodAttrs.l0
      repeat' first
      | (with_reducible exact ih0 _ _ _ _ _ _ _ _)
      | (with_reducible exact ih1 _ _ _ _ _ _ _ _)
      | (with_reducible exact ih2 _ _ _ _ _ _ _ _ _ _ _ _)
      | (with_reducible exact ih3 _ _ _ _ _ _ _ _ _ _ _ _ _)
      | (with_reducible exact ih4 _ _ _ _ _ _ _ _ _ _ _ _ _ _)
      | (with_reducible exact ih5 _ _ _ _ _ _ _ _ _)
      | (with_reducible exact interregnumref05_GoodPath.mono _ _)
      | (with_reducible exact LeO.refl _)
      | (with_reducible exact LeO.none _)
      | (with_reducible refine LeO.ite ?_ ?_)
      | (with_reducible refine LeO.bind ?_ (fun _ => ?_))
      | exact ih0 _ _ _ _ _ _ _ _
      | exact ih1 _ _ _ _ _ _ _ _
      | exact ih2 _ _ _ _ _ _ _ _ _ _ _ _
      | exact ih3 _ _ _ _ _ _ _ _ _ _ _ _ _
      | exact ih4 _ _ _ _ _ _ _ _ _ _ _ _ _ _
      | exact ih5 _ _ _ _ _ _ _ _ _
      | exact interregnumref05_GoodPath.mono _ _
      | exact LeO.none _
      | refine LeO.ite ?_ ?_
      | refine LeO.bind ?_ (fun _ => ?_)
    · intro y0 y1 y2 y3 y4 y5 y6 y7 y8 y9 y10 y11
      unfold interregnumref05_GoodAttrs.j2
      repeat' first
      | (with_reducible exact ih0 _ _ _ _ _ _ _ _)
      | (with_reducible exact ih1 _ _ _ _ _ _ _ _)
      | (with_reducible exact ih2 _ _ _ _ _ _ _ _ _ _ _ _)
      | (with_reducible exact ih3 _ _ _ _ _ _ _ _ _ _ _ _ _)
      | (with_reducible exact ih4 _ _ _ _ _ _ _ _ _ _ _ _ _ _)
      | (with_reducible exact ih5 _ _ _ _ _ _ _ _ _)
      | (with_reducible exact interregnumref05_GoodPath.mono _ _)
      | (with_reducible exact LeO.refl _)
      | (with_reducible exact LeO.none _)
      | (with_reducible refine LeO.ite ?_ ?_)
      | (with_reducible refine LeO.bind ?_ (fun _ => ?_))
      | exact ih0 _ _ _ _ _ _ _ _
      | exact ih1 _ _ _ _ _ _ _ _
      | exact ih2 _ _ _ _ _ _ _ _ _ _ _ _
      | exact ih3 _ _ _ _ _ _ _ _ _ _ _ _ _
      | exact ih4 _ _ _ _ _ _ _ _ _ _ _ _ _ _
      | exact ih5 _ _ _ _ _ _ _ _ _
      | exact interregnumref05_GoodPath.mono _ _
      | exact LeO.none _
      | refine LeO.ite ?_ ?_
      | refine LeO.bind ?_ (fun _ => ?_)
    · intro y0 y1 y2 y3 y4 y5 y6 y7 y8 y9 y10 y11 y12
      unfold interregnumref05_GoodAttrs.j3
      repeat' first
      | (with_reducible exact ih0 _ _ _ _ _ _ _ _)
      | (with_reducible exact ih1 _ _ _ _ _ _ _ _)
      | (with_reducible exact ih2 _ _ _ _ _ _ _ _ _ _ _ _)
      | (with_reducible exact ih3 _ _ _ _ _ _ _ _ _ _ _ _ _)
      | (with_reducible exact ih4 _ _ _ _ _ _ _ _ _ _ _ _ _ _)
      | (with_reducible exact ih5 _ _ _ _ _ _ _ _ _)
      | (with_reducible exact interregnumref05_GoodPath.mono _ _)
      | (with_reducible exact LeO.refl _)
      | (with_reducible exact LeO.none _)
      | (with_reducible refine LeO.ite ?_ ?_)
      | (with_reducible refine LeO.bind ?_ (fun _ => ?_))
      | exact ih0 _ _ _ _ _ _ _ _
      | exact ih1 _ _ _ _ _ _ _ _
      | exact ih2 _ _ _ _ _ _ _ _ _ _ _ _
      | exact ih3 _ _ _ _ _ _ _ _ _ _ _ _ _
      | exact ih4 _ _ _ _ _ _ _ _ _ _ _ _ _ _
      | exact ih5 _ _ _ _ _ _ _ _ _
      | exact interregnumref05_GoodPath.mono _ _
      | exact LeO.none _
      | refine LeO.ite ?_ ?_
      | refine LeO.bind ?_ (fun _ => ?_)
    · intro y0 y1 y2 y3 y4 y5 y6 y7 y8 y9 y10 y11 y12 y13
      unfold interregnumref05_GoodAttrs.j4
      repeat' first
      | (with_reducible exact ih0 _ _ _ _ _ _ _ _)
      | (with_reducible exact ih1 _ _ _ _ _ _ _ _)
      | (with_reducible exact ih2 _ _ _ _ _ _ _ _ _ _ _ _)
      | (with_reducible exact ih3 _ _ _ _ _ _ _ _ _ _ _ _ _)
      | (with_reducible exact ih4 _ _ _ _ _ _ _ _ _ _ _ _ _ _)
      | (with_reducible exact ih5 _ _ _ _ _ _ _ _ _)
      | (with_reducible exact interregnumref05_GoodPath.mono _ _)
      | (with_reducible exact LeO.refl _)
      | (with_reducible exact LeO.none _)
      | (with_reducible refine LeO.ite ?_ ?_)
      | (with_reducible refine LeO.bind ?_ (fun _ => ?_))
      | exact ih0 _ _ _ _ _ _ _ _
      | exact ih1 _ _ _ _ _ _ _ _
      | exact ih2 _ _ _ _ _ _ _ _ _ _ _ _
      | exact ih3 _ _ _ _ _ _ _ _ _ _ _ _ _
      | exact ih4 _ _ _ _ _ _ _ _ _ _ _ _ _ _
      | exact ih5 _ _ _ _ _ _ _ _ _
      | exact interregnumref05_GoodPath.mono _ _
      | exact LeO.none _
      | refine LeO.ite ?_ ?_
      | refine LeO.bind ?_ (fun _ => ?_)
    · intro y0 y1 y2 y3 y4 y5 y6 y7 y8
      unfold interregnumref05_GoodAttrs.j5
      repeat' first
      | (with_reducible exact ih0 _ _ _ _ _ _ _ _)
      | (with_reducible exact ih1 _ _ _ _ _ _ _ _)
      | (with_reducible exact ih2 _ _ _ _ _ _ _ _ _ _ _ _)
      | (with_reducible exact ih3 _ _ _ _ _ _ _ _ _ _ _ _ _)
      | (with_reducible exact ih4 _ _ _ _ _ _ _ _ _ _ _ _ _ _)
      | (with_reducible exact ih5 _ _ _ _ _ _ _ _ _)
      | (with_reducible exact interregnumref05_GoodPath.mono _ _)
      | (with_reducible exact LeO.refl _)
      | (with_reducible exact LeO.none _)
      | (with_reducible refine LeO.ite ?_ ?_)
      | (with_reducible refine LeO.bind ?_ (fun _ => ?_))
      | exact ih0 _ _ _ _ _ _ _ _
      | exact ih1 _ _ _ _ _ _ _ _
      | exact ih2 _ _ _ _ _ _ _ _ _ _ _ _
      | exact ih3 _ _ _ _ _ _ _ _ _ _ _ _ _
      | exact ih4 _ _ _ _ _ _ _ _ _ _ _ _ _ _
      | exact ih5 _ _ _ _ _ _ _ _ _
      | exact interregnumref05_GoodPath.mono _ _
      | exact LeO.none _
      | refine LeO.ite ?_ ?_
      | refine LeO.bind ?_ (fun _ => ?_)
theorem interregnumref05_GoodAttrs.mono : ∀ a0 a1 a2 a3 a4 a5 a6 k, LeO (interregnumref05_GoodAttrs.f k a0 a1 a2 a3 a4 a5 a6) (interregnumref05_GoodAttrs.f (k + 1) a0 a1 a2 a3 a4 a5 a6) := by
  intro a0 a1 a2 a3 a4 a5 a6 k
  obtain ⟨ih0, ih1, ih2, ih3, ih4, ih5⟩ := interregnumref05_GoodAttrs.mono_l k
  unfold interregnumref05_GoodAttrs.f
  repeat' first
      | (with_reducible exact ih0 _ _ _ _ _ _ _ _)
      | (with_reducible exact ih1 _ _ _ _ _ _ _ _)
      | (with_reducible exact ih2 _ _ _ _ _ _ _ _ _ _ _ _)
      | (with_reducible exact ih3 _ _ _ _ _ _ _ _ _ _ _ _ _)
      | (with_reducible exact ih4 _ _ _ _ _ _ _ _ _ _ _ _ _ _)
      | (with_reducible exact ih5 _ _ _ _ _ _ _ _ _)
      | (with_reducible exact interregnumref05_GoodPath.mono _ _)
      | (with_reducible exact LeO.refl _)
      | (with_reducible exact LeO.none _)
      | (with_reducible refine LeO.ite ?_ ?_)
      | (with_reducible refine LeO.bind ?_ (fun _ => ?_))
      | exact ih0 _ _ _ _ _ _ _ _
      | exact ih1 _ _ _ _ _ _ _ _
      | exact ih2 _ _ _ _ _ _ _ _ _ _ _ _
      | exact ih3 _ _ _ _ _ _ _ _ _ _ _ _ _
      | exact ih4 _ _ _ _ _ _ _ _ _ _ _ _ _ _
      | exact ih5 _ _ _ _ _ _ _ _ _
      | exact interregnumref05_GoodPath.mono _ _
      | exact LeO.none _
      | refine LeO.ite ?_ ?_
      | refine LeO.bind ?_ (fun _ => ?_)
set_option maxHeartbeats 8000000 in
set_option maxRecDepth 100000 in
theorem interregnumref05_GoodAttrs.calls (k : Nat) (a0_0 : Int) (A0_1 : Option Addr) (c0_1 : Nat) (l0_1 : List (S69)) (a0_2 : Int) (a0_3 : Int) (a0_4 : Int) (A0_5 : Option Addr) (c0_5 : Nat) (l0_5 : List Int) (A0_6 : Option Addr) (c0_6 : Nat) (l0_6 : List (S73)) (r : Bool) (w : World) (hr0_1 : Kd.C k69 w A0_1 l0_1.length l0_1) (hc0_1 : l0_1.length ≤ c0_1) (hr0_5 : Kd.C (Kd.int .u32) w A0_5 l0_5.length l0_5) (hc0_5 : l0_5.length ≤ c0_5) (hr0_6 : Kd.C k73 w A0_6 l0_6.length l0_6) (hc0_6 : l0_6.length ≤ c0_6) (h : interregnumref05_GoodAttrs.f k a0_0 l0_1 a0_2 a0_3 a0_4 l0_5 l0_6 = some r) :
    Calls Try.prog 28 #[.agg #[.int .i64 a0_0, .slice A0_1 l0_1.length c0_1, .int .u32 a0_2, .int .i64 a0_3, .int .i64 a0_4, .slice A0_5 l0_5.length c0_5, .slice A0_6 l0_6.length c0_6]] w fun e w' => e = .returned (.bool r) ∧ Below w.heap.size w w' := by
 have hu34 := Try.underlying34
 have hu73 := Try.underlying73
 have HR0_1 := Aside0.mk hr0_1
 have HC0_1 := Aside0.mk hc0_1
 clear hr0_1 hc0_1
 have HR0_5 := Aside0.mk hr0_5
 have HC0_5 := Aside0.mk hc0_5
 clear hr0_5 hc0_5
 have HR0_6 := Aside0.mk hr0_6
 have HC0_6 := Aside0.mk hc0_6
 clear hr0_6 hc0_6
 have HB := Aside0.mk (Below.refl w.heap.size w)
 have H : (if a0_0 < 0 then (interregnumref05_GoodAttrs.j0 k true a0_0 l0_1 a0_2 a0_3 a0_4 l0_5 l0_6) else (if a0_0 > 2 then (interregnumref05_GoodAttrs.j0 k true a0_0 l0_1 a0_2 a0_3 a0_4 l0_5 l0_6) else ((interregnumref05_GoodPath.f k l0_1).bind fun t181 => (if t181 = true then ((interregnumref05_Hop.f a0_2).bind fun t182 => (if t182 = true then (if a0_3 < (-1) then (interregnumref05_GoodAttrs.j0 k true a0_0 l0_1 a0_2 a0_3 a0_4 l0_5 l0_6) else (if a0_3 > 4294967295 then (interregnumref05_GoodAttrs.j0 k true a0_0 l0_1 a0_2 a0_3 a0_4 l0_5 l0_6) else (if a0_4 < (-1) then (interregnumref05_GoodAttrs.j0 k true a0_0 l0_1 a0_2 a0_3 a0_4 l0_5 l0_6) else (if a0_4 > 4294967295 then (interregnumref05_GoodAttrs.j0 k true a0_0 l0_1 a0_2 a0_3 a0_4 l0_5 l0_6) else (interregnumref05_GoodAttrs.j0 k (decide ((l0_5.length : Int) > 32)) a0_0 l0_1 a0_2 a0_3 a0_4 l0_5 l0_6))))) else (interregnumref05_GoodAttrs.j0 k true a0_0 l0_1 a0_2 a0_3 a0_4 l0_5 l0_6))) else (interregnumref05_GoodAttrs.j0 k true a0_0 l0_1 a0_2 a0_3 a0_4 l0_5 l0_6))))) = some r := h
 clear h
 have HC2 := Aside0.mk H
 clear H
 go_enter Try.func28, Try.ntmps28
 go_upto_region 1 with (first | ((with_reducible refine gate_dst (N := 1) rfl ?_); (try (refine gate_guard (by rfl) ?_; dsimp only)); refine box_event ?hg (N := 1) ?hd (cs := #[.int .i64 a0_0, .slice A0_1 l0_1.length c0_1, .int .u32 a0_2, .int .i64 a0_3, .int .i64 a0_4, .slice A0_5 l0_5.length c0_5, .slice A0_6 l0_6.length c0_6]) (t := 34) ?hr ?_; (case hd => rfl); (case hg => rfl); (case hr => first | (go_simp; done) | (go_simp; rfl) | (go_simp; simp [IntKind.wrap_u8, IntKind.wrap_u32]; done)); intro gb180 hg w3 hbox hb; have n0_ := Aside0.mk (below_step (by repeat (first | (with_reducible first | exact HB.out | apply below_alloc | apply pw_below_drewN | apply below_drew1) | exact HB.out)) hb); have n1_ := Aside0.mk (hbox); have n2_ := Aside0.mk ((by rw [hg]; exact (below_size (by repeat (first | (with_reducible first | exact HB.out | apply below_alloc | apply pw_below_drewN | apply below_drew1) | exact HB.out))) : w.heap.size ≤ gb180)); have n3_ := Aside0.mk ((by rw [hg]; exact (below_size (by repeat (first | (with_reducible first | exact HB.out | apply below_alloc | apply pw_below_drewN | apply below_drew1) | exact HB.out))) : w.heap.size ≤ gb180)); clear HB; have HB := n0_; have BK180 := n1_; have GW180 := n2_; have GE180 := n3_; clear n0_ n1_ n2_ n3_; clear hb hbox hg))
 repeat (go_quiet (first | ((with_reducible refine gate_dst (N := 1) rfl ?_); (try (refine gate_guard (by rfl) ?_; dsimp only)); refine box_event ?hg (N := 1) ?hd (cs := #[.int .i64 a0_0, .slice A0_1 l0_1.length c0_1, .int .u32 a0_2, .int .i64 a0_3, .int .i64 a0_4, .slice A0_5 l0_5.length c0_5, .slice A0_6 l0_6.length c0_6]) (t := 34) ?hr ?_; (case hd => rfl); (case hg => rfl); (case hr => first | (go_simp; done) | (go_simp; rfl) | (go_simp; simp [IntKind.wrap_u8, IntKind.wrap_u32]; done)); intro gb180 hg w3 hbox hb; have n0_ := Aside0.mk (below_step (by repeat (first | (with_reducible first | exact HB.out | apply below_alloc | apply pw_below_drewN | apply below_drew1) | exact HB.out)) hb); have n1_ := Aside0.mk (hbox); have n2_ := Aside0.mk ((by rw [hg]; exact (below_size (by repeat (first | (with_reducible first | exact HB.out | apply below_alloc | apply pw_below_drewN | apply below_drew1) | exact HB.out))) : w.heap.size ≤ gb180)); have n3_ := Aside0.mk ((by rw [hg]; exact (below_size (by repeat (first | (with_reducible first | exact HB.out | apply below_alloc | apply pw_below_drewN | apply below_drew1) | exact HB.out))) : w.heap.size ≤ gb180)); clear HB; have HB := n0_; have BK180 := n1_; have GW180 := n2_; have GE180 := n3_; clear n0_ n1_ n2_ n3_; clear hb hbox hg)); go_upto_region 1 with (first | ((with_reducible refine gate_dst (N := 1) rfl ?_); (try (refine gate_guard (by rfl) ?_; dsimp only)); refine box_event ?hg (N := 1) ?hd (cs := #[.int .i64 a0_0, .slice A0_1 l0_1.length c0_1, .int .u32 a0_2, .int .i64 a0_3, .int .i64 a0_4, .slice A0_5 l0_5.length c0_5, .slice A0_6 l0_6.length c0_6]) (t := 34) ?hr ?_; (case hd => rfl); (case hg => rfl); (case hr => first | (go_simp; done) | (go_simp; rfl) | (go_simp; simp [IntKind.wrap_u8, IntKind.wrap_u32]; done)); intro gb180 hg w3 hbox hb; have n0_ := Aside0.mk (below_step (by repeat (first | (with_reducible first | exact HB.out | apply below_alloc | apply pw_below_drewN | apply below_drew1) | exact HB.out)) hb); have n1_ := Aside0.mk (hbox); have n2_ := Aside0.mk ((by rw [hg]; exact (below_size (by repeat (first | (with_reducible first | exact HB.out | apply below_alloc | apply pw_below_drewN | apply below_drew1) | exact HB.out))) : w.heap.size ≤ gb180)); have n3_ := Aside0.mk ((by rw [hg]; exact (below_size (by repeat (first | (with_reducible first | exact HB.out | apply below_alloc | apply pw_below_drewN | apply below_drew1) | exact HB.out))) : w.heap.size ≤ gb180)); clear HB; have HB := n0_; have BK180 := n1_; have GW180 := n2_; have GE180 := n3_; clear n0_ n1_ n2_ n3_; clear hb hbox hg)))
 (try simp only [Act.put, q1_, q2_, q3_])
 go_cut [53] (fun v53 wc => ∃ (kq : Nat) (x53_1 : Bool), v53 = .bool x53_1 ∧ Aside0 (interregnumref05_GoodAttrs.j0 kq x53_1 a0_0 l0_1 a0_2 a0_3 a0_4 l0_5 l0_6 = some r) ∧ Aside0 (kq ≤ k) ∧ Aside0 (wc.heap[gb180]? = some (.cells #[.int .i64 a0_0, (.slice A0_1 l0_1.length c0_1), .int .u32 a0_2, .int .i64 a0_3, .int .i64 a0_4, (.slice A0_5 l0_5.length c0_5), (.slice A0_6 l0_6.length c0_6)] 34 (0, 0))) ∧ Aside0 (Below w.heap.size w wc))
 case first =>
  have H := HC2.out
  clear HC2
  by_cases c4 : a0_0 < 0
  ·rw [if_pos c4] at H
   have c4b0 : decide (a0_0 < 0) = true := decide_eq_true c4
   clear c4
   (first | rw [c4b0] | (simp only [i64_w, i32_w]; rw [c4b0]) | skip)
   have H' := Aside0.mk H
   clear H
   have hcz5_0 : w3.cell? ⟨gb180, 0, none⟩ = some (.int .i64 a0_0) := (blk_cell BK180.out 0).trans rfl
   have hcz5_1 : w3.cell? ⟨gb180, 1, none⟩ = some (.slice A0_1 l0_1.length c0_1) := (blk_cell BK180.out 1).trans rfl
   have hcz5_2 : w3.cell? ⟨gb180, 2, none⟩ = some (.int .u32 a0_2) := (blk_cell BK180.out 2).trans rfl
   have hcz5_3 : w3.cell? ⟨gb180, 3, none⟩ = some (.int .i64 a0_3) := (blk_cell BK180.out 3).trans rfl
   have hcz5_4 : w3.cell? ⟨gb180, 4, none⟩ = some (.int .i64 a0_4) := (blk_cell BK180.out 4).trans rfl
   have hcz5_5 : w3.cell? ⟨gb180, 5, none⟩ = some (.slice A0_5 l0_5.length c0_5) := (blk_cell BK180.out 5).trans rfl
   have hcz5_6 : w3.cell? ⟨gb180, 6, none⟩ = some (.slice A0_6 l0_6.length c0_6) := (blk_cell BK180.out 6).trans rfl
   have hfz5_0 := blk_frozen BK180.out 0
   have hfz5_1 := blk_frozen BK180.out 1
   have hfz5_2 := blk_frozen BK180.out 2
   have hfz5_3 := blk_frozen BK180.out 3
   have hfz5_4 := blk_frozen BK180.out 4
   have hfz5_5 := blk_frozen BK180.out 5
   have hfz5_6 := blk_frozen BK180.out 6
   go_wp2
   repeat (go_quiet (fail); try go_wp2)
   go_meet
   case rel => exact ⟨_, (true), (by first | rfl | (simp; done) | (simp [*]; done)), H', ⟨by first | omega | exact Nat.le_refl _⟩, ⟨by (with_reducible repeat (first | refine blk_drewN ?_ _ | refine blk_drew ?_ | refine blk_alloc ?_ _)); exact BK180.out⟩, ⟨by repeat (first | (with_reducible first | exact HB.out | apply below_alloc | apply pw_below_drewN | apply below_drew1 | refine below_set ?_ GE180.out) | exact HB.out)⟩⟩
  rw [if_neg c4] at H
  have c4b0 : decide (a0_0 < 0) = false := decide_eq_false c4
  clear c4
  (first | rw [c4b0] | (simp only [i64_w, i32_w]; rw [c4b0]) | skip)
  by_cases c6 : a0_0 > 2
  ·rw [if_pos c6] at H
   have c6b0 : decide (2 < a0_0) = true := decide_eq_true c6
   clear c6
   have H' := Aside0.mk H
   clear H
   have hcz7_0 : w3.cell? ⟨gb180, 0, none⟩ = some (.int .i64 a0_0) := (blk_cell BK180.out 0).trans rfl
   have hcz7_1 : w3.cell? ⟨gb180, 1, none⟩ = some (.slice A0_1 l0_1.length c0_1) := (blk_cell BK180.out 1).trans rfl
   have hcz7_2 : w3.cell? ⟨gb180, 2, none⟩ = some (.int .u32 a0_2) := (blk_cell BK180.out 2).trans rfl
   have hcz7_3 : w3.cell? ⟨gb180, 3, none⟩ = some (.int .i64 a0_3) := (blk_cell BK180.out 3).trans rfl
   have hcz7_4 : w3.cell? ⟨gb180, 4, none⟩ = some (.int .i64 a0_4) := (blk_cell BK180.out 4).trans rfl
   have hcz7_5 : w3.cell? ⟨gb180, 5, none⟩ = some (.slice A0_5 l0_5.length c0_5) := (blk_cell BK180.out 5).trans rfl
   have hcz7_6 : w3.cell? ⟨gb180, 6, none⟩ = some (.slice A0_6 l0_6.length c0_6) := (blk_cell BK180.out 6).trans rfl
   have hfz7_0 := blk_frozen BK180.out 0
   have hfz7_1 := blk_frozen BK180.out 1
   have hfz7_2 := blk_frozen BK180.out 2
   have hfz7_3 := blk_frozen BK180.out 3
   have hfz7_4 := blk_frozen BK180.out 4
   have hfz7_5 := blk_frozen BK180.out 5
   have hfz7_6 := blk_frozen BK180.out 6
   go_wp2
   repeat (go_quiet (fail); try go_wp2)
   go_meet
   case rel => exact ⟨_, (true), (by first | rfl | (simp; done) | (simp [*]; done)), H', ⟨by first | omega | exact Nat.le_refl _⟩, ⟨by (with_reducible repeat (first | refine blk_drewN ?_ _ | refine blk_drew ?_ | refine blk_alloc ?_ _)); exact BK180.out⟩, ⟨by repeat (first | (with_reducible first | exact HB.out | apply below_alloc | apply pw_below_drewN | apply below_drew1 | refine below_set ?_ GE180.out) | exact HB.out)⟩⟩
  rw [if_neg c6] at H
  have c6b0 : decide (2 < a0_0) = false := decide_eq_false c6
  clear c6
  replace H := Option.bind_eq_some_iff.mp H
  obtain ⟨t181, A80, H⟩ := H
  replace H : (if t181 = true then ((interregnumref05_Hop.f a0_2).bind fun t182 => (if t182 = true then (if a0_3 < (-1) then (interregnumref05_GoodAttrs.j0 k true a0_0 l0_1 a0_2 a0_3 a0_4 l0_5 l0_6) else (if a0_3 > 4294967295 then (interregnumref05_GoodAttrs.j0 k true a0_0 l0_1 a0_2 a0_3 a0_4 l0_5 l0_6) else (if a0_4 < (-1) then (interregnumref05_GoodAttrs.j0 k true a0_0 l0_1 a0_2 a0_3 a0_4 l0_5 l0_6) else (if a0_4 > 4294967295 then (interregnumref05_GoodAttrs.j0 k true a0_0 l0_1 a0_2 a0_3 a0_4 l0_5 l0_6) else (interregnumref05_GoodAttrs.j0 k (decide ((l0_5.length : Int) > 32)) a0_0 l0_1 a0_2 a0_3 a0_4 l0_5 l0_6))))) else (interregnumref05_GoodAttrs.j0 k true a0_0 l0_1 a0_2 a0_3 a0_4 l0_5 l0_6))) else (interregnumref05_GoodAttrs.j0 k true a0_0 l0_1 a0_2 a0_3 a0_4 l0_5 l0_6)) = some r := H
  have A8 := Aside0.mk A80
  clear A80
  by_cases c9 : t181 = true
  rotate_left
  ·replace c9 := Bool.eq_false_iff.mpr c9
   subst c9
   have H1 : (interregnumref05_GoodAttrs.j0 k true a0_0 l0_1 a0_2 a0_3 a0_4 l0_5 l0_6) = some r := by rw [if_neg (show ¬ (false = true) by decide)] at H; exact H
   clear H
   have H := H1
   clear H1
   have H' := Aside0.mk H
   clear H
   have hcz22_0 : w3.cell? ⟨gb180, 0, none⟩ = some (.int .i64 a0_0) := (blk_cell BK180.out 0).trans rfl
   have hcz22_1 : w3.cell? ⟨gb180, 1, none⟩ = some (.slice A0_1 l0_1.length c0_1) := (blk_cell BK180.out 1).trans rfl
   have hcz22_2 : w3.cell? ⟨gb180, 2, none⟩ = some (.int .u32 a0_2) := (blk_cell BK180.out 2).trans rfl
   have hcz22_3 : w3.cell? ⟨gb180, 3, none⟩ = some (.int .i64 a0_3) := (blk_cell BK180.out 3).trans rfl
   have hcz22_4 : w3.cell? ⟨gb180, 4, none⟩ = some (.int .i64 a0_4) := (blk_cell BK180.out 4).trans rfl
   have hcz22_5 : w3.cell? ⟨gb180, 5, none⟩ = some (.slice A0_5 l0_5.length c0_5) := (blk_cell BK180.out 5).trans rfl
   have hcz22_6 : w3.cell? ⟨gb180, 6, none⟩ = some (.slice A0_6 l0_6.length c0_6) := (blk_cell BK180.out 6).trans rfl
   have hfz22_0 := blk_frozen BK180.out 0
   have hfz22_1 := blk_frozen BK180.out 1
   have hfz22_2 := blk_frozen BK180.out 2
   have hfz22_3 := blk_frozen BK180.out 3
   have hfz22_4 := blk_frozen BK180.out 4
   have hfz22_5 := blk_frozen BK180.out 5
   have hfz22_6 := blk_frozen BK180.out 6
   go_wp2_with (first | (go_at_call 49; (with_reducible refine (interregnumref05_GoodPath.calls k _ _ l0_1 false _ ?side1 ?side2 A8.out).mono ?_); (case side1 => repeat (first | exact (Kd.C_below HR0_1.out HB.out) | (with_reducible refine Kd.C_alloc ?_ _) | (with_reducible refine Kd.C_drewN ?_ _) | (with_reducible refine Kd.C_drew ?_))); (case side2 => exact HC0_1.out); rintro e w' ⟨rfl, ⟨nd, rfl⟩⟩; (try first | exact ⟨rfl, _, World.drewN_drewN _ _ _⟩ | exact ⟨rfl, _, Eq.trans (World.drewN_drewN _ _ _) (congrArg (World.drewN _) (Nat.add_assoc _ _ _))⟩)))
   repeat (go_quiet (first | (go_at_call 49; (with_reducible refine (interregnumref05_GoodPath.calls k _ _ l0_1 false _ ?side1 ?side2 A8.out).mono ?_); (case side1 => repeat (first | exact (Kd.C_below HR0_1.out HB.out) | (with_reducible refine Kd.C_alloc ?_ _) | (with_reducible refine Kd.C_drewN ?_ _) | (with_reducible refine Kd.C_drew ?_))); (case side2 => exact HC0_1.out); rintro e w' ⟨rfl, ⟨nd, rfl⟩⟩; (try first | exact ⟨rfl, _, World.drewN_drewN _ _ _⟩ | exact ⟨rfl, _, Eq.trans (World.drewN_drewN _ _ _) (congrArg (World.drewN _) (Nat.add_assoc _ _ _))⟩))); try go_wp2_with (first | (go_at_call 49; (with_reducible refine (interregnumref05_GoodPath.calls k _ _ l0_1 false _ ?side1 ?side2 A8.out).mono ?_); (case side1 => repeat (first | exact (Kd.C_below HR0_1.out HB.out) | (with_reducible refine Kd.C_alloc ?_ _) | (with_reducible refine Kd.C_drewN ?_ _) | (with_reducible refine Kd.C_drew ?_))); (case side2 => exact HC0_1.out); rintro e w' ⟨rfl, ⟨nd, rfl⟩⟩; (try first | exact ⟨rfl, _, World.drewN_drewN _ _ _⟩ | exact ⟨rfl, _, Eq.trans (World.drewN_drewN _ _ _) (congrArg (World.drewN _) (Nat.add_assoc _ _ _))⟩))))
   go_meet
   case rel => exact ⟨_, (true), (by first | rfl | (simp; done) | (simp [*]; done)), H', ⟨by first | omega | exact Nat.le_refl _⟩, ⟨by (with_reducible repeat (first | refine blk_drewN ?_ _ | refine blk_drew ?_ | refine blk_alloc ?_ _)); exact BK180.out⟩, ⟨by repeat (first | (with_reducible first | exact HB.out | apply below_alloc | apply pw_below_drewN | apply below_drew1 | refine below_set ?_ GE180.out) | exact HB.out)⟩⟩
  subst c9
  have H1 : ((interregnumref05_Hop.f a0_2).bind fun t182 => (if t182 = true then (if a0_3 < (-1) then (interregnumref05_GoodAttrs.j0 k true a0_0 l0_1 a0_2 a0_3 a0_4 l0_5 l0_6) else (if a0_3 > 4294967295 then (interregnumref05_GoodAttrs.j0 k true a0_0 l0_1 a0_2 a0_3 a0_4 l0_5 l0_6) else (if a0_4 < (-1) then (interregnumref05_GoodAttrs.j0 k true a0_0 l0_1 a0_2 a0_3 a0_4 l0_5 l0_6) else (if a0_4 > 4294967295 then (interregnumref05_GoodAttrs.j0 k true a0_0 l0_1 a0_2 a0_3 a0_4 l0_5 l0_6) else (interregnumref05_GoodAttrs.j0 k (decide ((l0_5.length : Int) > 32)) a0_0 l0_1 a0_2 a0_3 a0_4 l0_5 l0_6))))) else (interregnumref05_GoodAttrs.j0 k true a0_0 l0_1 a0_2 a0_3 a0_4 l0_5 l0_6))) = some r := by rw [if_pos rfl] at H; exact H
  clear H
  have H := H1
  clear H1
  replace H := Option.bind_eq_some_iff.mp H
  obtain ⟨t182, A100, H⟩ := H
  replace H : (if t182 = true then (if a0_3 < (-1) then (interregnumref05_GoodAttrs.j0 k true a0_0 l0_1 a0_2 a0_3 a0_4 l0_5 l0_6) else (if a0_3 > 4294967295 then (interregnumref05_GoodAttrs.j0 k true a0_0 l0_1 a0_2 a0_3 a0_4 l0_5 l0_6) else (if a0_4 < (-1) then (interregnumref05_GoodAttrs.j0 k true a0_0 l0_1 a0_2 a0_3 a0_4 l0_5 l0_6) else (if a0_4 > 4294967295 then (interregnumref05_GoodAttrs.j0 k true a0_0 l0_1 a0_2 a0_3 a0_4 l0_5 l0_6) else (interregnumref05_GoodAttrs.j0 k (decide ((l0_5.length : Int) > 32)) a0_0 l0_1 a0_2 a0_3 a0_4 l0_5 l0_6))))) else (interregnumref05_GoodAttrs.j0 k true a0_0 l0_1 a0_2 a0_3 a0_4 l0_5 l0_6)) = some r := H
  have A10 := Aside0.mk A100
  clear A100
  by_cases c11 : t182 = true
  rotate_left
  ·replace c11 := Bool.eq_false_iff.mpr c11
   subst c11
   have H1 : (interregnumref05_GoodAttrs.j0 k true a0_0 l0_1 a0_2 a0_3 a0_4 l0_5 l0_6) = some r := by rw [if_neg (show ¬ (false = true) by decide)] at H; exact H
   clear H
   have H := H1
   clear H1
   have H' := Aside0.mk H
   clear H
   have hcz21_0 : w3.cell? ⟨gb180, 0, none⟩ = some (.int .i64 a0_0) := (blk_cell BK180.out 0).trans rfl
   have hcz21_1 : w3.cell? ⟨gb180, 1, none⟩ = some (.slice A0_1 l0_1.length c0_1) := (blk_cell BK180.out 1).trans rfl
   have hcz21_2 : w3.cell? ⟨gb180, 2, none⟩ = some (.int .u32 a0_2) := (blk_cell BK180.out 2).trans rfl
   have hcz21_3 : w3.cell? ⟨gb180, 3, none⟩ = some (.int .i64 a0_3) := (blk_cell BK180.out 3).trans rfl
   have hcz21_4 : w3.cell? ⟨gb180, 4, none⟩ = some (.int .i64 a0_4) := (blk_cell BK180.out 4).trans rfl
   have hcz21_5 : w3.cell? ⟨gb180, 5, none⟩ = some (.slice A0_5 l0_5.length c0_5) := (blk_cell BK180.out 5).trans rfl
   have hcz21_6 : w3.cell? ⟨gb180, 6, none⟩ = some (.slice A0_6 l0_6.length c0_6) := (blk_cell BK180.out 6).trans rfl
   have hfz21_0 := blk_frozen BK180.out 0
   have hfz21_1 := blk_frozen BK180.out 1
   have hfz21_2 := blk_frozen BK180.out 2
   have hfz21_3 := blk_frozen BK180.out 3
   have hfz21_4 := blk_frozen BK180.out 4
   have hfz21_5 := blk_frozen BK180.out 5
   have hfz21_6 := blk_frozen BK180.out 6
   go_wp2_with (first | (go_at_call 49; (with_reducible refine (interregnumref05_GoodPath.calls k _ _ l0_1 true _ ?side1 ?side2 A8.out).mono ?_); (case side1 => repeat (first | exact (Kd.C_below HR0_1.out HB.out) | (with_reducible refine Kd.C_alloc ?_ _) | (with_reducible refine Kd.C_drewN ?_ _) | (with_reducible refine Kd.C_drew ?_))); (case side2 => exact HC0_1.out); rintro e w' ⟨rfl, ⟨nd, rfl⟩⟩; (try first | exact ⟨rfl, _, World.drewN_drewN _ _ _⟩ | exact ⟨rfl, _, Eq.trans (World.drewN_drewN _ _ _) (congrArg (World.drewN _) (Nat.add_assoc _ _ _))⟩)) | (go_at_call 21; (with_reducible refine (interregnumref05_Hop.calls a0_2 false _ A10.out).mono ?_); rintro e w' ⟨rfl, ⟨nd, rfl⟩⟩; (try first | exact ⟨rfl, _, World.drewN_drewN _ _ _⟩ | exact ⟨rfl, _, Eq.trans (World.drewN_drewN _ _ _) (congrArg (World.drewN _) (Nat.add_assoc _ _ _))⟩)))
   repeat (go_quiet (first | (go_at_call 49; (with_reducible refine (interregnumref05_GoodPath.calls k _ _ l0_1 true _ ?side1 ?side2 A8.out).mono ?_); (case side1 => repeat (first | exact (Kd.C_below HR0_1.out HB.out) | (with_reducible refine Kd.C_alloc ?_ _) | (with_reducible refine Kd.C_drewN ?_ _) | (with_reducible refine Kd.C_drew ?_))); (case side2 => exact HC0_1.out); rintro e w' ⟨rfl, ⟨nd, rfl⟩⟩; (try first | exact ⟨rfl, _, World.drewN_drewN _ _ _⟩ | exact ⟨rfl, _, Eq.trans (World.drewN_drewN _ _ _) (congrArg (World.drewN _) (Nat.add_assoc _ _ _))⟩)) | (go_at_call 21; (with_reducible refine (interregnumref05_Hop.calls a0_2 false _ A10.out).mono ?_); rintro e w' ⟨rfl, ⟨nd, rfl⟩⟩; (try first | exact ⟨rfl, _, World.drewN_drewN _ _ _⟩ | exact ⟨rfl, _, Eq.trans (World.drewN_drewN _ _ _) (congrArg (World.drewN _) (Nat.add_assoc _ _ _))⟩))); try go_wp2_with (first | (go_at_call 49; (with_reducible refine (interregnumref05_GoodPath.calls k _ _ l0_1 true _ ?side1 ?side2 A8.out).mono ?_); (case side1 => repeat (first | exact (Kd.C_below HR0_1.out HB.out) | (with_reducible refine Kd.C_alloc ?_ _) | (with_reducible refine Kd.C_drewN ?_ _) | (with_reducible refine Kd.C_drew ?_))); (case side2 => exact HC0_1.out); rintro e w' ⟨rfl, ⟨nd, rfl⟩⟩; (try first | exact ⟨rfl, _, World.drewN_drewN _ _ _⟩ | exact ⟨rfl, _, Eq.trans (World.drewN_drewN _ _ _) (congrArg (World.drewN _) (Nat.add_assoc _ _ _))⟩)) | (go_at_call 21; (with_reducible refine (interregnumref05_Hop.calls a0_2 false _ A10.out).mono ?_); rintro e w' ⟨rfl, ⟨nd, rfl⟩⟩; (try first | exact ⟨rfl, _, World.drewN_drewN _ _ _⟩ | exact ⟨rfl, _, Eq.trans (World.drewN_drewN _ _ _) (congrArg (World.drewN _) (Nat.add_assoc _ _ _))⟩))))
   go_meet
   case rel => exact ⟨_, (true), (by first | rfl | (simp; done) | (simp [*]; done)), H', ⟨by first | omega | exact Nat.le_refl _⟩, ⟨by (with_reducible repeat (first | refine blk_drewN ?_ _ | refine blk_drew ?_ | refine blk_alloc ?_ _)); exact BK180.out⟩, ⟨by repeat (first | (with_reducible first | exact HB.out | apply below_alloc | apply pw_below_drewN | apply below_drew1 | refine below_set ?_ GE180.out) | exact HB.out)⟩⟩
  subst c11
  have H1 : (if a0_3 < (-1) then (interregnumref05_GoodAttrs.j0 k true a0_0 l0_1 a0_2 a0_3 a0_4 l0_5 l0_6) else (if a0_3 > 4294967295 then (interregnumref05_GoodAttrs.j0 k true a0_0 l0_1 a0_2 a0_3 a0_4 l0_5 l0_6) else (if a0_4 < (-1) then (interregnumref05_GoodAttrs.j0 k true a0_0 l0_1 a0_2 a0_3 a0_4 l0_5 l0_6) else (if a0_4 > 4294967295 then (interregnumref05_GoodAttrs.j0 k true a0_0 l0_1 a0_2 a0_3 a0_4 l0_5 l0_6) else (interregnumref05_GoodAttrs.j0 k (decide ((l0_5.length : Int) > 32)) a0_0 l0_1 a0_2 a0_3 a0_4 l0_5 l0_6))))) = some r := by rw [if_pos rfl] at H; exact H
  clear H
  have H := H1
  clear H1
  by_cases c12 : a0_3 < (-1)
  ·rw [if_pos c12] at H
   have c12b0 : decide (a0_3 < (-1)) = true := decide_eq_true c12
   clear c12
   have H' := Aside0.mk H
   clear H
   have hcz13_0 : w3.cell? ⟨gb180, 0, none⟩ = some (.int .i64 a0_0) := (blk_cell BK180.out 0).trans rfl
   have hcz13_1 : w3.cell? ⟨gb180, 1, none⟩ = some (.slice A0_1 l0_1.length c0_1) := (blk_cell BK180.out 1).trans rfl
   have hcz13_2 : w3.cell? ⟨gb180, 2, none⟩ = some (.int .u32 a0_2) := (blk_cell BK180.out 2).trans rfl
   have hcz13_3 : w3.cell? ⟨gb180, 3, none⟩ = some (.int .i64 a0_3) := (blk_cell BK180.out 3).trans rfl
   have hcz13_4 : w3.cell? ⟨gb180, 4, none⟩ = some (.int .i64 a0_4) := (blk_cell BK180.out 4).trans rfl
   have hcz13_5 : w3.cell? ⟨gb180, 5, none⟩ = some (.slice A0_5 l0_5.length c0_5) := (blk_cell BK180.out 5).trans rfl
   have hcz13_6 : w3.cell? ⟨gb180, 6, none⟩ = some (.slice A0_6 l0_6.length c0_6) := (blk_cell BK180.out 6).trans rfl
   have hfz13_0 := blk_frozen BK180.out 0
   have hfz13_1 := blk_frozen BK180.out 1
   have hfz13_2 := blk_frozen BK180.out 2
   have hfz13_3 := blk_frozen BK180.out 3
   have hfz13_4 := blk_frozen BK180.out 4
   have hfz13_5 := blk_frozen BK180.out 5
   have hfz13_6 := blk_frozen BK180.out 6
   go_wp2_with (first | (go_at_call 49; (with_reducible refine (interregnumref05_GoodPath.calls k _ _ l0_1 true _ ?side1 ?side2 A8.out).mono ?_); (case side1 => repeat (first | exact (Kd.C_below HR0_1.out HB.out) | (with_reducible refine Kd.C_alloc ?_ _) | (with_reducible refine Kd.C_drewN ?_ _) | (with_reducible refine Kd.C_drew ?_))); (case side2 => exact HC0_1.out); rintro e w' ⟨rfl, ⟨nd, rfl⟩⟩; (try first | exact ⟨rfl, _, World.drewN_drewN _ _ _⟩ | exact ⟨rfl, _, Eq.trans (World.drewN_drewN _ _ _) (congrArg (World.drewN _) (Nat.add_assoc _ _ _))⟩)) | (go_at_call 21; (with_reducible refine (interregnumref05_Hop.calls a0_2 true _ A10.out).mono ?_); rintro e w' ⟨rfl, ⟨nd, rfl⟩⟩; (try first | exact ⟨rfl, _, World.drewN_drewN _ _ _⟩ | exact ⟨rfl, _, Eq.trans (World.drewN_drewN _ _ _) (congrArg (World.drewN _) (Nat.add_assoc _ _ _))⟩)))
   repeat (go_quiet (first | (go_at_call 49; (with_reducible refine (interregnumref05_GoodPath.calls k _ _ l0_1 true _ ?side1 ?side2 A8.out).mono ?_); (case side1 => repeat (first | exact (Kd.C_below HR0_1.out HB.out) | (with_reducible refine Kd.C_alloc ?_ _) | (with_reducible refine Kd.C_drewN ?_ _) | (with_reducible refine Kd.C_drew ?_))); (case side2 => exact HC0_1.out); rintro e w' ⟨rfl, ⟨nd, rfl⟩⟩; (try first | exact ⟨rfl, _, World.drewN_drewN _ _ _⟩ | exact ⟨rfl, _, Eq.trans (World.drewN_drewN _ _ _) (congrArg (World.drewN _) (Nat.add_assoc _ _ _))⟩)) | (go_at_call 21; (with_reducible refine (interregnumref05_Hop.calls a0_2 true _ A10.out).mono ?_); rintro e w' ⟨rfl, ⟨nd, rfl⟩⟩; (try first | exact ⟨rfl, _, World.drewN_drewN _ _ _⟩ | exact ⟨rfl, _, Eq.trans (World.drewN_drewN _ _ _) (congrArg (World.drewN _) (Nat.add_assoc _ _ _))⟩))); try go_wp2_with (first | (go_at_call 49; (with_reducible refine (interregnumref05_GoodPath.calls k _ _ l0_1 true _ ?side1 ?side2 A8.out).mono ?_); (case side1 => repeat (first | exact (Kd.C_below HR0_1.out HB.out) | (with_reducible refine Kd.C_alloc ?_ _) | (with_reducible refine Kd.C_drewN ?_ _) | (with_reducible refine Kd.C_drew ?_))); (case side2 => exact HC0_1.out); rintro e w' ⟨rfl, ⟨nd, rfl⟩⟩; (try first | exact ⟨rfl, _, World.drewN_drewN _ _ _⟩ | exact ⟨rfl, _, Eq.trans (World.drewN_drewN _ _ _) (congrArg (World.drewN _) (Nat.add_assoc _ _ _))⟩)) | (go_at_call 21; (with_reducible refine (interregnumref05_Hop.calls a0_2 true _ A10.out).mono ?_); rintro e w' ⟨rfl, ⟨nd, rfl⟩⟩; (try first | exact ⟨rfl, _, World.drewN_drewN _ _ _⟩ | exact ⟨rfl, _, Eq.trans (World.drewN_drewN _ _ _) (congrArg (World.drewN _) (Nat.add_assoc _ _ _))⟩))))
   go_meet
   case rel => exact ⟨_, (true), (by first | rfl | (simp; done) | (simp [*]; done)), H', ⟨by first | omega | exact Nat.le_refl _⟩, ⟨by (with_reducible repeat (first | refine blk_drewN ?_ _ | refine blk_drew ?_ | refine blk_alloc ?_ _)); exact BK180.out⟩, ⟨by repeat (first | (with_reducible first | exact HB.out | apply below_alloc | apply pw_below_drewN | apply below_drew1 | refine below_set ?_ GE180.out) | exact HB.out)⟩⟩
  rw [if_neg c12] at H
  have c12b0 : decide (a0_3 < (-1)) = false := decide_eq_false c12
  clear c12
  by_cases c14 : a0_3 > 4294967295
  ·rw [if_pos c14] at H
   have c14b0 : decide (4294967295 < a0_3) = true := decide_eq_true c14
   clear c14
   have H' := Aside0.mk H
   clear H
   have hcz15_0 : w3.cell? ⟨gb180, 0, none⟩ = some (.int .i64 a0_0) := (blk_cell BK180.out 0).trans rfl
   have hcz15_1 : w3.cell? ⟨gb180, 1, none⟩ = some (.slice A0_1 l0_1.length c0_1) := (blk_cell BK180.out 1).trans rfl
   have hcz15_2 : w3.cell? ⟨gb180, 2, none⟩ = some (.int .u32 a0_2) := (blk_cell BK180.out 2).trans rfl
   have hcz15_3 : w3.cell? ⟨gb180, 3, none⟩ = some (.int .i64 a0_3) := (blk_cell BK180.out 3).trans rfl
   have hcz15_4 : w3.cell? ⟨gb180, 4, none⟩ = some (.int .i64 a0_4) := (blk_cell BK180.out 4).trans rfl
   have hcz15_5 : w3.cell? ⟨gb180, 5, none⟩ = some (.slice A0_5 l0_5.length c0_5) := (blk_cell BK180.out 5).trans rfl
   have hcz15_6 : w3.cell? ⟨gb180, 6, none⟩ = some (.slice A0_6 l0_6.length c0_6) := (blk_cell BK180.out 6).trans rfl
   have hfz15_0 := blk_frozen BK180.out 0
   have hfz15_1 := blk_frozen BK180.out 1
   have hfz15_2 := blk_frozen BK180.out 2
   have hfz15_3 := blk_frozen BK180.out 3
   have hfz15_4 := blk_frozen BK180.out 4
   have hfz15_5 := blk_frozen BK180.out 5
   have hfz15_6 := blk_frozen BK180.out 6
   go_wp2_with (first | (go_at_call 49; (with_reducible refine (interregnumref05_GoodPath.calls k _ _ l0_1 true _ ?side1 ?side2 A8.out).mono ?_); (case side1 => repeat (first | exact (Kd.C_below HR0_1.out HB.out) | (with_reducible refine Kd.C_alloc ?_ _) | (with_reducible refine Kd.C_drewN ?_ _) | (with_reducible refine Kd.C_drew ?_))); (case side2 => exact HC0_1.out); rintro e w' ⟨rfl, ⟨nd, rfl⟩⟩; (try first | exact ⟨rfl, _, World.drewN_drewN _ _ _⟩ | exact ⟨rfl, _, Eq.trans (World.drewN_drewN _ _ _) (congrArg (World.drewN _) (Nat.add_assoc _ _ _))⟩)) | (go_at_call 21; (with_reducible refine (interregnumref05_Hop.calls a0_2 true _ A10.out).mono ?_); rintro e w' ⟨rfl, ⟨nd, rfl⟩⟩; (try first | exact ⟨rfl, _, World.drewN_drewN _ _ _⟩ | exact ⟨rfl, _, Eq.trans (World.drewN_drewN _ _ _) (congrArg (World.drewN _) (Nat.add_assoc _ _ _))⟩)))
   repeat (go_quiet (first | (go_at_call 49; (with_reducible refine (interregnumref05_GoodPath.calls k _ _ l0_1 true _ ?side1 ?side2 A8.out).mono ?_); (case side1 => repeat (first | exact (Kd.C_below HR0_1.out HB.out) | (with_reducible refine Kd.C_alloc ?_ _) | (with_reducible refine Kd.C_drewN ?_ _) | (with_reducible refine Kd.C_drew ?_))); (case side2 => exact HC0_1.out); rintro e w' ⟨rfl, ⟨nd, rfl⟩⟩; (try first | exact ⟨rfl, _, World.drewN_drewN _ _ _⟩ | exact ⟨rfl, _, Eq.trans (World.drewN_drewN _ _ _) (congrArg (World.drewN _) (Nat.add_assoc _ _ _))⟩)) | (go_at_call 21; (with_reducible refine (interregnumref05_Hop.calls a0_2 true _ A10.out).mono ?_); rintro e w' ⟨rfl, ⟨nd, rfl⟩⟩; (try first | exact ⟨rfl, _, World.drewN_drewN _ _ _⟩ | exact ⟨rfl, _, Eq.trans (World.drewN_drewN _ _ _) (congrArg (World.drewN _) (Nat.add_assoc _ _ _))⟩))); try go_wp2_with (first | (go_at_call 49; (with_reducible refine (interregnumref05_GoodPath.calls k _ _ l0_1 true _ ?side1 ?side2 A8.out).mono ?_); (case side1 => repeat (first | exact (Kd.C_below HR0_1.out HB.out) | (with_reducible refine Kd.C_alloc ?_ _) | (with_reducible refine Kd.C_drewN ?_ _) | (with_reducible refine Kd.C_drew ?_))); (case side2 => exact HC0_1.out); rintro e w' ⟨rfl, ⟨nd, rfl⟩⟩; (try first | exact ⟨rfl, _, World.drewN_drewN _ _ _⟩ | exact ⟨rfl, _, Eq.trans (World.drewN_drewN _ _ _) (congrArg (World.drewN _) (Nat.add_assoc _ _ _))⟩)) | (go_at_call 21; (with_reducible refine (interregnumref05_Hop.calls a0_2 true _ A10.out).mono ?_); rintro e w' ⟨rfl, ⟨nd, rfl⟩⟩; (try first | exact ⟨rfl, _, World.drewN_drewN _ _ _⟩ | exact ⟨rfl, _, Eq.trans (World.drewN_drewN _ _ _) (congrArg (World.drewN _) (Nat.add_assoc _ _ _))⟩))))
   go_meet
   case rel => exact ⟨_, (true), (by first | rfl | (simp; done) | (simp [*]; done)), H', ⟨by first | omega | exact Nat.le_refl _⟩, ⟨by (with_reducible repeat (first | refine blk_drewN ?_ _ | refine blk_drew ?_ | refine blk_alloc ?_ _)); exact BK180.out⟩, ⟨by repeat (first | (with_reducible first | exact HB.out | apply below_alloc | apply pw_below_drewN | apply below_drew1 | refine below_set ?_ GE180.out) | exact HB.out)⟩⟩
  rw [if_neg c14] at H
  have c14b0 : decide (4294967295 < a0_3) = false := decide_eq_false c14
  clear c14
  by_cases c16 : a0_4 < (-1)
  ·rw [if_pos c16] at H
   have c16b0 : decide (a0_4 < (-1)) = true := decide_eq_true c16
   clear c16
   have H' := Aside0.mk H
   clear H
   have hcz17_0 : w3.cell? ⟨gb180, 0, none⟩ = some (.int .i64 a0_0) := (blk_cell BK180.out 0).trans rfl
   have hcz17_1 : w3.cell? ⟨gb180, 1, none⟩ = some (.slice A0_1 l0_1.length c0_1) := (blk_cell BK180.out 1).trans rfl
   have hcz17_2 : w3.cell? ⟨gb180, 2, none⟩ = some (.int .u32 a0_2) := (blk_cell BK180.out 2).trans rfl
   have hcz17_3 : w3.cell? ⟨gb180, 3, none⟩ = some (.int .i64 a0_3) := (blk_cell BK180.out 3).trans rfl
   have hcz17_4 : w3.cell? ⟨gb180, 4, none⟩ = some (.int .i64 a0_4) := (blk_cell BK180.out 4).trans rfl
   have hcz17_5 : w3.cell? ⟨gb180, 5, none⟩ = some (.slice A0_5 l0_5.length c0_5) := (blk_cell BK180.out 5).trans rfl
   have hcz17_6 : w3.cell? ⟨gb180, 6, none⟩ = some (.slice A0_6 l0_6.length c0_6) := (blk_cell BK180.out 6).trans rfl
   have hfz17_0 := blk_frozen BK180.out 0
   have hfz17_1 := blk_frozen BK180.out 1
   have hfz17_2 := blk_frozen BK180.out 2
   have hfz17_3 := blk_frozen BK180.out 3
   have hfz17_4 := blk_frozen BK180.out 4
   have hfz17_5 := blk_frozen BK180.out 5
   have hfz17_6 := blk_frozen BK180.out 6
   go_wp2_with (first | (go_at_call 49; (with_reducible refine (interregnumref05_GoodPath.calls k _ _ l0_1 true _ ?side1 ?side2 A8.out).mono ?_); (case side1 => repeat (first | exact (Kd.C_below HR0_1.out HB.out) | (with_reducible refine Kd.C_alloc ?_ _) | (with_reducible refine Kd.C_drewN ?_ _) | (with_reducible refine Kd.C_drew ?_))); (case side2 => exact HC0_1.out); rintro e w' ⟨rfl, ⟨nd, rfl⟩⟩; (try first | exact ⟨rfl, _, World.drewN_drewN _ _ _⟩ | exact ⟨rfl, _, Eq.trans (World.drewN_drewN _ _ _) (congrArg (World.drewN _) (Nat.add_assoc _ _ _))⟩)) | (go_at_call 21; (with_reducible refine (interregnumref05_Hop.calls a0_2 true _ A10.out).mono ?_); rintro e w' ⟨rfl, ⟨nd, rfl⟩⟩; (try first | exact ⟨rfl, _, World.drewN_drewN _ _ _⟩ | exact ⟨rfl, _, Eq.trans (World.drewN_drewN _ _ _) (congrArg (World.drewN _) (Nat.add_assoc _ _ _))⟩)))
   repeat (go_quiet (first | (go_at_call 49; (with_reducible refine (interregnumref05_GoodPath.calls k _ _ l0_1 true _ ?side1 ?side2 A8.out).mono ?_); (case side1 => repeat (first | exact (Kd.C_below HR0_1.out HB.out) | (with_reducible refine Kd.C_alloc ?_ _) | (with_reducible refine Kd.C_drewN ?_ _) | (with_reducible refine Kd.C_drew ?_))); (case side2 => exact HC0_1.out); rintro e w' ⟨rfl, ⟨nd, rfl⟩⟩; (try first | exact ⟨rfl, _, World.drewN_drewN _ _ _⟩ | exact ⟨rfl, _, Eq.trans (World.drewN_drewN _ _ _) (congrArg (World.drewN _) (Nat.add_assoc _ _ _))⟩)) | (go_at_call 21; (with_reducible refine (interregnumref05_Hop.calls a0_2 true _ A10.out).mono ?_); rintro e w' ⟨rfl, ⟨nd, rfl⟩⟩; (try first | exact ⟨rfl, _, World.drewN_drewN _ _ _⟩ | exact ⟨rfl, _, Eq.trans (World.drewN_drewN _ _ _) (congrArg (World.drewN _) (Nat.add_assoc _ _ _))⟩))); try go_wp2_with (first | (go_at_call 49; (with_reducible refine (interregnumref05_GoodPath.calls k _ _ l0_1 true _ ?side1 ?side2 A8.out).mono ?_); (case side1 => repeat (first | exact (Kd.C_below HR0_1.out HB.out) | (with_reducible refine Kd.C_alloc ?_ _) | (with_reducible refine Kd.C_drewN ?_ _) | (with_reducible refine Kd.C_drew ?_))); (case side2 => exact HC0_1.out); rintro e w' ⟨rfl, ⟨nd, rfl⟩⟩; (try first | exact ⟨rfl, _, World.drewN_drewN _ _ _⟩ | exact ⟨rfl, _, Eq.trans (World.drewN_drewN _ _ _) (congrArg (World.drewN _) (Nat.add_assoc _ _ _))⟩)) | (go_at_call 21; (with_reducible refine (interregnumref05_Hop.calls a0_2 true _ A10.out).mono ?_); rintro e w' ⟨rfl, ⟨nd, rfl⟩⟩; (try first | exact ⟨rfl, _, World.drewN_drewN _ _ _⟩ | exact ⟨rfl, _, Eq.trans (World.drewN_drewN _ _ _) (congrArg (World.drewN _) (Nat.add_assoc _ _ _))⟩))))
   go_meet
   case rel => exact ⟨_, (true), (by first | rfl | (simp; done) | (simp [*]; done)), H', ⟨by first | omega | exact Nat.le_refl _⟩, ⟨by (with_reducible repeat (first | refine blk_drewN ?_ _ | refine blk_drew ?_ | refine blk_alloc ?_ _)); exact BK180.out⟩, ⟨by repeat (first | (with_reducible first | exact HB.out | apply below_alloc | apply pw_below_drewN | apply below_drew1 | refine below_set ?_ GE180.out) | exact HB.out)⟩⟩
  rw [if_neg c16] at H
  have c16b0 : decide (a0_4 < (-1)) = false := decide_eq_false c16
  clear c16
  by_cases c18 : a0_4 > 4294967295
  ·rw [if_pos c18] at H
   have c18b0 : decide (4294967295 < a0_4) = true := decide_eq_true c18
   clear c18
   have H' := Aside0.mk H
   clear H
   have hcz19_0 : w3.cell? ⟨gb180, 0, none⟩ = some (.int .i64 a0_0) := (blk_cell BK180.out 0).trans rfl
   have hcz19_1 : w3.cell? ⟨gb180, 1, none⟩ = some (.slice A0_1 l0_1.length c0_1) := (blk_cell BK180.out 1).trans rfl
   have hcz19_2 : w3.cell? ⟨gb180, 2, none⟩ = some (.int .u32 a0_2) := (blk_cell BK180.out 2).trans rfl
   have hcz19_3 : w3.cell? ⟨gb180, 3, none⟩ = some (.int .i64 a0_3) := (blk_cell BK180.out 3).trans rfl
   have hcz19_4 : w3.cell? ⟨gb180, 4, none⟩ = some (.int .i64 a0_4) := (blk_cell BK180.out 4).trans rfl
   have hcz19_5 : w3.cell? ⟨gb180, 5, none⟩ = some (.slice A0_5 l0_5.length c0_5) := (blk_cell BK180.out 5).trans rfl
   have hcz19_6 : w3.cell? ⟨gb180, 6, none⟩ = some (.slice A0_6 l0_6.length c0_6) := (blk_cell BK180.out 6).trans rfl
   have hfz19_0 := blk_frozen BK180.out 0
   have hfz19_1 := blk_frozen BK180.out 1
   have hfz19_2 := blk_frozen BK180.out 2
   have hfz19_3 := blk_frozen BK180.out 3
   have hfz19_4 := blk_frozen BK180.out 4
   have hfz19_5 := blk_frozen BK180.out 5
   have hfz19_6 := blk_frozen BK180.out 6
   go_wp2_with (first | (go_at_call 49; (with_reducible refine (interregnumref05_GoodPath.calls k _ _ l0_1 true _ ?side1 ?side2 A8.out).mono ?_); (case side1 => repeat (first | exact (Kd.C_below HR0_1.out HB.out) | (with_reducible refine Kd.C_alloc ?_ _) | (with_reducible refine Kd.C_drewN ?_ _) | (with_reducible refine Kd.C_drew ?_))); (case side2 => exact HC0_1.out); rintro e w' ⟨rfl, ⟨nd, rfl⟩⟩; (try first | exact ⟨rfl, _, World.drewN_drewN _ _ _⟩ | exact ⟨rfl, _, Eq.trans (World.drewN_drewN _ _ _) (congrArg (World.drewN _) (Nat.add_assoc _ _ _))⟩)) | (go_at_call 21; (with_reducible refine (interregnumref05_Hop.calls a0_2 true _ A10.out).mono ?_); rintro e w' ⟨rfl, ⟨nd, rfl⟩⟩; (try first | exact ⟨rfl, _, World.drewN_drewN _ _ _⟩ | exact ⟨rfl, _, Eq.trans (World.drewN_drewN _ _ _) (congrArg (World.drewN _) (Nat.add_assoc _ _ _))⟩)))
   repeat (go_quiet (first | (go_at_call 49; (with_reducible refine (interregnumref05_GoodPath.calls k _ _ l0_1 true _ ?side1 ?side2 A8.out).mono ?_); (case side1 => repeat (first | exact (Kd.C_below HR0_1.out HB.out) | (with_reducible refine Kd.C_alloc ?_ _) | (with_reducible refine Kd.C_drewN ?_ _) | (with_reducible refine Kd.C_drew ?_))); (case side2 => exact HC0_1.out); rintro e w' ⟨rfl, ⟨nd, rfl⟩⟩; (try first | exact ⟨rfl, _, World.drewN_drewN _ _ _⟩ | exact ⟨rfl, _, Eq.trans (World.drewN_drewN _ _ _) (congrArg (World.drewN _) (Nat.add_assoc _ _ _))⟩)) | (go_at_call 21; (with_reducible refine (interregnumref05_Hop.calls a0_2 true _ A10.out).mono ?_); rintro e w' ⟨rfl, ⟨nd, rfl⟩⟩; (try first | exact ⟨rfl, _, World.drewN_drewN _ _ _⟩ | exact ⟨rfl, _, Eq.trans (World.drewN_drewN _ _ _) (congrArg (World.drewN _) (Nat.add_assoc _ _ _))⟩))); try go_wp2_with (first | (go_at_call 49; (with_reducible refine (interregnumref05_GoodPath.calls k _ _ l0_1 true _ ?side1 ?side2 A8.out).mono ?_); (case side1 => repeat (first | exact (Kd.C_below HR0_1.out HB.out) | (with_reducible refine Kd.C_alloc ?_ _) | (with_reducible refine Kd.C_drewN ?_ _) | (with_reducible refine Kd.C_drew ?_))); (case side2 => exact HC0_1.out); rintro e w' ⟨rfl, ⟨nd, rfl⟩⟩; (try first | exact ⟨rfl, _, World.drewN_drewN _ _ _⟩ | exact ⟨rfl, _, Eq.trans (World.drewN_drewN _ _ _) (congrArg (World.drewN _) (Nat.add_assoc _ _ _))⟩)) | (go_at_call 21; (with_reducible refine (interregnumref05_Hop.calls a0_2 true _ A10.out).mono ?_); rintro e w' ⟨rfl, ⟨nd, rfl⟩⟩; (try first | exact ⟨rfl, _, World.drewN_drewN _ _ _⟩ | exact ⟨rfl, _, Eq.trans (World.drewN_drewN _ _ _) (congrArg (World.drewN _) (Nat.add_assoc _ _ _))⟩))))
   go_meet
   case rel => exact ⟨_, (true), (by first | rfl | (simp; done) | (simp [*]; done)), H', ⟨by first | omega | exact Nat.le_refl _⟩, ⟨by (with_reducible repeat (first | refine blk_drewN ?_ _ | refine blk_drew ?_ | refine blk_alloc ?_ _)); exact BK180.out⟩, ⟨by repeat (first | (with_reducible first | exact HB.out | apply below_alloc | apply pw_below_drewN | apply below_drew1 | refine below_set ?_ GE180.out) | exact HB.out)⟩⟩
  rw [if_neg c18] at H
  have c18b0 : decide (4294967295 < a0_4) = false := decide_eq_false c18
  clear c18
  have H' := Aside0.mk H
  clear H
  have hcz20_0 : w3.cell? ⟨gb180, 0, none⟩ = some (.int .i64 a0_0) := (blk_cell BK180.out 0).trans rfl
  have hcz20_1 : w3.cell? ⟨gb180, 1, none⟩ = some (.slice A0_1 l0_1.length c0_1) := (blk_cell BK180.out 1).trans rfl
  have hcz20_2 : w3.cell? ⟨gb180, 2, none⟩ = some (.int .u32 a0_2) := (blk_cell BK180.out 2).trans rfl
  have hcz20_3 : w3.cell? ⟨gb180, 3, none⟩ = some (.int .i64 a0_3) := (blk_cell BK180.out 3).trans rfl
  have hcz20_4 : w3.cell? ⟨gb180, 4, none⟩ = some (.int .i64 a0_4) := (blk_cell BK180.out 4).trans rfl
  have hcz20_5 : w3.cell? ⟨gb180, 5, none⟩ = some (.slice A0_5 l0_5.length c0_5) := (blk_cell BK180.out 5).trans rfl
  have hcz20_6 : w3.cell? ⟨gb180, 6, none⟩ = some (.slice A0_6 l0_6.length c0_6) := (blk_cell BK180.out 6).trans rfl
  have hfz20_0 := blk_frozen BK180.out 0
  have hfz20_1 := blk_frozen BK180.out 1
  have hfz20_2 := blk_frozen BK180.out 2
  have hfz20_3 := blk_frozen BK180.out 3
  have hfz20_4 := blk_frozen BK180.out 4
  have hfz20_5 := blk_frozen BK180.out 5
  have hfz20_6 := blk_frozen BK180.out 6
  go_wp2_with (first | (go_at_call 49; (with_reducible refine (interregnumref05_GoodPath.calls k _ _ l0_1 true _ ?side1 ?side2 A8.out).mono ?_); (case side1 => repeat (first | exact (Kd.C_below HR0_1.out HB.out) | (with_reducible refine Kd.C_alloc ?_ _) | (with_reducible refine Kd.C_drewN ?_ _) | (with_reducible refine Kd.C_drew ?_))); (case side2 => exact HC0_1.out); rintro e w' ⟨rfl, ⟨nd, rfl⟩⟩; (try first | exact ⟨rfl, _, World.drewN_drewN _ _ _⟩ | exact ⟨rfl, _, Eq.trans (World.drewN_drewN _ _ _) (congrArg (World.drewN _) (Nat.add_assoc _ _ _))⟩)) | (go_at_call 21; (with_reducible refine (interregnumref05_Hop.calls a0_2 true _ A10.out).mono ?_); rintro e w' ⟨rfl, ⟨nd, rfl⟩⟩; (try first | exact ⟨rfl, _, World.drewN_drewN _ _ _⟩ | exact ⟨rfl, _, Eq.trans (World.drewN_drewN _ _ _) (congrArg (World.drewN _) (Nat.add_assoc _ _ _))⟩)))
  repeat (go_quiet (first | (go_at_call 49; (with_reducible refine (interregnumref05_GoodPath.calls k _ _ l0_1 true _ ?side1 ?side2 A8.out).mono ?_); (case side1 => repeat (first | exact (Kd.C_below HR0_1.out HB.out) | (with_reducible refine Kd.C_alloc ?_ _) | (with_reducible refine Kd.C_drewN ?_ _) | (with_reducible refine Kd.C_drew ?_))); (case side2 => exact HC0_1.out); rintro e w' ⟨rfl, ⟨nd, rfl⟩⟩; (try first | exact ⟨rfl, _, World.drewN_drewN _ _ _⟩ | exact ⟨rfl, _, Eq.trans (World.drewN_drewN _ _ _) (congrArg (World.drewN _) (Nat.add_assoc _ _ _))⟩)) | (go_at_call 21; (with_reducible refine (interregnumref05_Hop.calls a0_2 true _ A10.out).mono ?_); rintro e w' ⟨rfl, ⟨nd, rfl⟩⟩; (try first | exact ⟨rfl, _, World.drewN_drewN _ _ _⟩ | exact ⟨rfl, _, Eq.trans (World.drewN_drewN _ _ _) (congrArg (World.drewN _) (Nat.add_assoc _ _ _))⟩))); try go_wp2_with (first | (go_at_call 49; (with_reducible refine (interregnumref05_GoodPath.calls k _ _ l0_1 true _ ?side1 ?side2 A8.out).mono ?_); (case side1 => repeat (first | exact (Kd.C_below HR0_1.out HB.out) | (with_reducible refine Kd.C_alloc ?_ _) | (with_reducible refine Kd.C_drewN ?_ _) | (with_reducible refine Kd.C_drew ?_))); (case side2 => exact HC0_1.out); rintro e w' ⟨rfl, ⟨nd, rfl⟩⟩; (try first | exact ⟨rfl, _, World.drewN_drewN _ _ _⟩ | exact ⟨rfl, _, Eq.trans (World.drewN_drewN _ _ _) (congrArg (World.drewN _) (Nat.add_assoc _ _ _))⟩)) | (go_at_call 21; (with_reducible refine (interregnumref05_Hop.calls a0_2 true _ A10.out).mono ?_); rintro e w' ⟨rfl, ⟨nd, rfl⟩⟩; (try first | exact ⟨rfl, _, World.drewN_drewN _ _ _⟩ | exact ⟨rfl, _, Eq.trans (World.drewN_drewN _ _ _) (congrArg (World.drewN _) (Nat.add_assoc _ _ _))⟩))))
  go_meet
  case rel => exact ⟨_, (decide ((l0_5.length : Int) > 32)), (by first | rfl | (simp; done) | (simp [*]; done)), H', ⟨by first | omega | exact Nat.le_refl _⟩, ⟨by (with_reducible repeat (first | refine blk_drewN ?_ _ | refine blk_drew ?_ | refine blk_alloc ?_ _)); exact BK180.out⟩, ⟨by repeat (first | (with_reducible first | exact HB.out | apply below_alloc | apply pw_below_drewN | apply below_drew1 | refine below_set ?_ GE180.out) | exact HB.out)⟩⟩
 case rest =>
  clear HC2
  try clear c1
  try clear c2
  try clear p2
  try clear c4
  try clear c4b0
  try clear c6
  try clear c6b0
  try clear c9
  try clear c11
  try clear c12
  try clear c12b0
  try clear c14
  try clear c14b0
  try clear c16
  try clear c16b0
  try clear c18
  try clear c18b0
  try clear hcz13_0
  try clear hcz13_1
  try clear hcz13_2
  try clear hcz13_3
  try clear hcz13_4
  try clear hcz13_5
  try clear hcz13_6
  try clear hcz15_0
  try clear hcz15_1
  try clear hcz15_2
  try clear hcz15_3
  try clear hcz15_4
  try clear hcz15_5
  try clear hcz15_6
  try clear hcz17_0
  try clear hcz17_1
  try clear hcz17_2
  try clear hcz17_3
  try clear hcz17_4
  try clear hcz17_5
  try clear hcz17_6
  try clear hcz19_0
  try clear hcz19_1
  try clear hcz19_2
  try clear hcz19_3
  try clear hcz19_4
  try clear hcz19_5
  try clear hcz19_6
  try clear hcz20_0
  try clear hcz20_1
  try clear hcz20_2
  try clear hcz20_3
  try clear hcz20_4
  try clear hcz20_5
  try clear hcz20_6
  try clear hcz21_0
  try clear hcz21_1
  try clear hcz21_2
  try clear hcz21_3
  try clear hcz21_4
  try clear hcz21_5
  try clear hcz21_6
  try clear hcz22_0
  try clear hcz22_1
  try clear hcz22_2
  try clear hcz22_3
  try clear hcz22_4
  try clear hcz22_5
  try clear hcz22_6
  try clear hcz5_0
  try clear hcz5_1
  try clear hcz5_2
  try clear hcz5_3
  try clear hcz5_4
  try clear hcz5_5
  try clear hcz5_6
  try clear hcz7_0
  try clear hcz7_1
  try clear hcz7_2
  try clear hcz7_3
  try clear hcz7_4
  try clear hcz7_5
  try clear hcz7_6
  try clear hfz13_0
  try clear hfz13_1
  try clear hfz13_2
  try clear hfz13_3
  try clear hfz13_4
  try clear hfz13_5
  try clear hfz13_6
  try clear hfz15_0
  try clear hfz15_1
  try clear hfz15_2
  try clear hfz15_3
  try clear hfz15_4
  try clear hfz15_5
  try clear hfz15_6
  try clear hfz17_0
  try clear hfz17_1
  try clear hfz17_2
  try clear hfz17_3
  try clear hfz17_4
  try clear hfz17_5
  try clear hfz17_6
  try clear hfz19_0
  try clear hfz19_1
  try clear hfz19_2
  try clear hfz19_3
  try clear hfz19_4
  try clear hfz19_5
  try clear hfz19_6
  try clear hfz20_0
  try clear hfz20_1
  try clear hfz20_2
  try clear hfz20_3
  try clear hfz20_4
  try clear hfz20_5
  try clear hfz20_6
  try clear hfz21_0
  try clear hfz21_1
  try clear hfz21_2
  try clear hfz21_3
  try clear hfz21_4
  try clear hfz21_5
  try clear hfz21_6
  try clear hfz22_0
  try clear hfz22_1
  try clear hfz22_2
  try clear hfz22_3
  try clear hfz22_4
  try clear hfz22_5
  try clear hfz22_6
  try clear hfz5_0
  try clear hfz5_1
  try clear hfz5_2
  try clear hfz5_3
  try clear hfz5_4
  try clear hfz5_5
  try clear hfz5_6
  try clear hfz7_0
  try clear hfz7_1
  try clear hfz7_2
  try clear hfz7_3
  try clear hfz7_4
  try clear hfz7_5
  try clear hfz7_6
  obtain ⟨kq, x53_1, rfl, HA, HJ1, BK180, HB⟩ := hcut
  cases kq with
  | zero => exact absurd HA.out (by simp [interregnumref05_GoodAttrs.j0])
  | succ kj1 =>
  have H := HA.out
  clear HA
  simp only [interregnumref05_GoodAttrs.j0] at H
  by_cases c23 : x53_1 = true
  ·subst c23
   have H1 : (some false) = some r := by rw [if_pos rfl] at H; exact H
   clear H
   have H := H1
   clear H1
   obtain rfl := Option.some.inj H
   go_wp2
   repeat (go_quiet (fail); try go_wp2)
   go_ret
   exact ⟨by first | rfl | (simp [errW_none, errW_some] <;> rfl) | (simp [*, errW_none, errW_some] <;> rfl), by repeat (first | (with_reducible first | exact HB.out | apply below_alloc | apply pw_below_drewN | apply below_drew1 | refine below_set ?_ GE180.out) | exact HB.out)⟩
  replace c23 := Bool.eq_false_iff.mpr c23
  subst c23
  have H1 : (interregnumref05_GoodAttrs.l0 kj1 0 a0_0 l0_1 a0_2 a0_3 a0_4 l0_5 l0_6) = some r := by rw [if_neg (show ¬ (false = true) by decide)] at H; exact H
  clear H
  have H := H1
  clear H1
  have H' := Aside0.mk H
  clear H
  go_wp2
  repeat (go_quiet (fail); try go_wp2)
  go_loopg [3] kj1 (fun kq v3 w' => ∃ (x3_2 : Int), v3 = .int .i64 x3_2 ∧ Aside0 (interregnumref05_GoodAttrs.l0 kq x3_2 a0_0 l0_1 a0_2 a0_3 a0_4 l0_5 l0_6 = some r) ∧ Aside0 (kq ≤ kj1) ∧ Aside0 (w'.heap[gb180]? = some (.cells #[.int .i64 a0_0, (.slice A0_1 l0_1.length c0_1), .int .u32 a0_2, .int .i64 a0_3, .int .i64 a0_4, (.slice A0_5 l0_5.length c0_5), (.slice A0_6 l0_6.length c0_6)] 34 (0, 0))) ∧ Aside0 (Below w.heap.size w w'))
  case atStart => exact ⟨(0), (by first | rfl | (simp; done) | (simp [*]; done)), H', ⟨Nat.le_refl _⟩, ⟨by (with_reducible repeat (first | refine blk_drewN ?_ _ | refine blk_drew ?_ | refine blk_alloc ?_ _)); exact BK180.out⟩, ⟨by repeat (first | (with_reducible first | exact HB.out | apply below_alloc | apply pw_below_drewN | apply below_drew1 | refine below_set ?_ GE180.out) | exact HB.out)⟩⟩
  clear H'
  try clear c1
  try clear c2
  try clear p2
  try clear c4
  try clear c4b0
  try clear c6
  try clear c6b0
  try clear c9
  try clear c11
  try clear c12
  try clear c12b0
  try clear c14
  try clear c14b0
  try clear c16
  try clear c16b0
  try clear c18
  try clear c18b0
  try clear c23
  try clear hcz13_0
  try clear hcz13_1
  try clear hcz13_2
  try clear hcz13_3
  try clear hcz13_4
  try clear hcz13_5
  try clear hcz13_6
  try clear hcz15_0
  try clear hcz15_1
  try clear hcz15_2
  try clear hcz15_3
  try clear hcz15_4
  try clear hcz15_5
  try clear hcz15_6
  try clear hcz17_0
  try clear hcz17_1
  try clear hcz17_2
  try clear hcz17_3
  try clear hcz17_4
  try clear hcz17_5
  try clear hcz17_6
  try clear hcz19_0
  try clear hcz19_1
  try clear hcz19_2
  try clear hcz19_3
  try clear hcz19_4
  try clear hcz19_5
  try clear hcz19_6
  try clear hcz20_0
  try clear hcz20_1
  try clear hcz20_2
  try clear hcz20_3
  try clear hcz20_4
  try clear hcz20_5
  try clear hcz20_6
  try clear hcz21_0
  try clear hcz21_1
  try clear hcz21_2
  try clear hcz21_3
  try clear hcz21_4
  try clear hcz21_5
  try clear hcz21_6
  try clear hcz22_0
  try clear hcz22_1
  try clear hcz22_2
  try clear hcz22_3
  try clear hcz22_4
  try clear hcz22_5
  try clear hcz22_6
  try clear hcz5_0
  try clear hcz5_1
  try clear hcz5_2
  try clear hcz5_3
  try clear hcz5_4
  try clear hcz5_5
  try clear hcz5_6
  try clear hcz7_0
  try clear hcz7_1
  try clear hcz7_2
  try clear hcz7_3
  try clear hcz7_4
  try clear hcz7_5
  try clear hcz7_6
  try clear hfz13_0
  try clear hfz13_1
  try clear hfz13_2
  try clear hfz13_3
  try clear hfz13_4
  try clear hfz13_5
  try clear hfz13_6
  try clear hfz15_0
  try clear hfz15_1
  try clear hfz15_2
  try clear hfz15_3
  try clear hfz15_4
  try clear hfz15_5
  try clear hfz15_6
  try clear hfz17_0
  try clear hfz17_1
  try clear hfz17_2
  try clear hfz17_3
  try clear hfz17_4
  try clear hfz17_5
  try clear hfz17_6
  try clear hfz19_0
  try clear hfz19_1
  try clear hfz19_2
  try clear hfz19_3
  try clear hfz19_4
  try clear hfz19_5
  try clear hfz19_6
  try clear hfz20_0
  try clear hfz20_1
  try clear hfz20_2
  try clear hfz20_3
  try clear hfz20_4
  try clear hfz20_5
  try clear hfz20_6
  try clear hfz21_0
  try clear hfz21_1
  try clear hfz21_2
  try clear hfz21_3
  try clear hfz21_4
  try clear hfz21_5
  try clear hfz21_6
  try clear hfz22_0
  try clear hfz22_1
  try clear hfz22_2
  try clear hfz22_3
  try clear hfz22_4
  try clear hfz22_5
  try clear hfz22_6
  try clear hfz5_0
  try clear hfz5_1
  try clear hfz5_2
  try clear hfz5_3
  try clear hfz5_4
  try clear hfz5_5
  try clear hfz5_6
  try clear hfz7_0
  try clear hfz7_1
  try clear hfz7_2
  try clear hfz7_3
  try clear hfz7_4
  try clear hfz7_5
  try clear hfz7_6
  try clear p2
  obtain ⟨x3_2, rfl, HA, HK2, BK180, HB⟩ := hrel
  cases gk with
  | zero => exact absurd HA.out (by simp [interregnumref05_GoodAttrs.l0])
  | succ k2 =>
  have H := HA.out
  clear HA
  simp only [interregnumref05_GoodAttrs.l0] at H
  by_cases c24 : x3_2 < (l0_6.length : Int)
  rotate_left
  ·rw [if_neg c24] at H
   have c24b0 : decide (x3_2 < (l0_6.length : Int)) = false := decide_eq_false c24
   clear c24
   obtain rfl := Option.some.inj H
   have hcz86_0 : wr.cell? ⟨gb180, 0, none⟩ = some (.int .i64 a0_0) := (blk_cell BK180.out 0).trans rfl
   have hcz86_1 : wr.cell? ⟨gb180, 1, none⟩ = some (.slice A0_1 l0_1.length c0_1) := (blk_cell BK180.out 1).trans rfl
   have hcz86_2 : wr.cell? ⟨gb180, 2, none⟩ = some (.int .u32 a0_2) := (blk_cell BK180.out 2).trans rfl
   have hcz86_3 : wr.cell? ⟨gb180, 3, none⟩ = some (.int .i64 a0_3) := (blk_cell BK180.out 3).trans rfl
   have hcz86_4 : wr.cell? ⟨gb180, 4, none⟩ = some (.int .i64 a0_4) := (blk_cell BK180.out 4).trans rfl
   have hcz86_5 : wr.cell? ⟨gb180, 5, none⟩ = some (.slice A0_5 l0_5.length c0_5) := (blk_cell BK180.out 5).trans rfl
   have hcz86_6 : wr.cell? ⟨gb180, 6, none⟩ = some (.slice A0_6 l0_6.length c0_6) := (blk_cell BK180.out 6).trans rfl
   have hfz86_0 := blk_frozen BK180.out 0
   have hfz86_1 := blk_frozen BK180.out 1
   have hfz86_2 := blk_frozen BK180.out 2
   have hfz86_3 := blk_frozen BK180.out 3
   have hfz86_4 := blk_frozen BK180.out 4
   have hfz86_5 := blk_frozen BK180.out 5
   have hfz86_6 := blk_frozen BK180.out 6
   go_wp2
   repeat (go_quiet (fail); try go_wp2)
   go_ret
   exact ⟨by first | rfl | (simp [errW_none, errW_some] <;> rfl) | (simp [*, errW_none, errW_some] <;> rfl), by repeat (first | (with_reducible first | exact HB.out | apply below_alloc | apply pw_below_drewN | apply below_drew1 | refine below_set ?_ GE180.out) | exact HB.out)⟩
  rw [if_pos c24] at H
  have c24b0 : decide (x3_2 < (l0_6.length : Int)) = true := decide_eq_true c24
  clear c24
  by_cases c25 : 0 ≤ x3_2
  rotate_left
  ·rw [if_neg c25] at H
   exact absurd H (by simp)
  rw [if_pos c25] at H
  have c25b0 : decide (0 ≤ x3_2) = true := decide_eq_true c25
  clear c25
  have HC26 := Aside0.mk H
  clear H
  have hcz27_0 : wr.cell? ⟨gb180, 0, none⟩ = some (.int .i64 a0_0) := (blk_cell BK180.out 0).trans rfl
  have hcz27_1 : wr.cell? ⟨gb180, 1, none⟩ = some (.slice A0_1 l0_1.length c0_1) := (blk_cell BK180.out 1).trans rfl
  have hcz27_2 : wr.cell? ⟨gb180, 2, none⟩ = some (.int .u32 a0_2) := (blk_cell BK180.out 2).trans rfl
  have hcz27_3 : wr.cell? ⟨gb180, 3, none⟩ = some (.int .i64 a0_3) := (blk_cell BK180.out 3).trans rfl
  have hcz27_4 : wr.cell? ⟨gb180, 4, none⟩ = some (.int .i64 a0_4) := (blk_cell BK180.out 4).trans rfl
  have hcz27_5 : wr.cell? ⟨gb180, 5, none⟩ = some (.slice A0_5 l0_5.length c0_5) := (blk_cell BK180.out 5).trans rfl
  have hcz27_6 : wr.cell? ⟨gb180, 6, none⟩ = some (.slice A0_6 l0_6.length c0_6) := (blk_cell BK180.out 6).trans rfl
  have hfz27_0 := blk_frozen BK180.out 0
  have hfz27_1 := blk_frozen BK180.out 1
  have hfz27_2 := blk_frozen BK180.out 2
  have hfz27_3 := blk_frozen BK180.out 3
  have hfz27_4 := blk_frozen BK180.out 4
  have hfz27_5 := blk_frozen BK180.out 5
  have hfz27_6 := blk_frozen BK180.out 6
  have p183 : 0 ≤ (x3_2 : Int) := of_decide_eq_true (by first | (with_reducible assumption) | assumption)
  have q183 : x3_2 < (l0_6.length : Int) := of_decide_eq_true (by first | (with_reducible assumption) | assumption)
  obtain ⟨ad183, A183_2, c183_2, e183, hx183_0, hx183_1, hx183_2, hl183_2, hi183_2⟩ := at_T73 HR0_6.out x3_2 p183 q183
  cases e183
  replace hx183_0 := (HB.out.cell (World.block_lt_of_cell? w _ hx183_0)).trans hx183_0
  replace hx183_1 := (HB.out.cell (World.block_lt_of_cell? w _ hx183_1)).trans hx183_1
  replace hx183_2 := (HB.out.cell (World.block_lt_of_cell? w _ hx183_2)).trans hx183_2
  have HR183_2 := Aside0.mk hi183_2
  have HC183_2 := Aside0.mk hl183_2
  clear hi183_2 hl183_2
  replace p183 := eq_true p183
  replace q183 := eq_true q183
  go_upto_region 7 with (first | ((with_reducible refine gate_dst (N := 4) rfl ?_); (try (refine gate_guard (by rfl) ?_; dsimp only)); refine box_event ?hg (N := 4) ?hd (cs := #[.int .i64 0, .int .i64 0, .slice none 0 0]) (t := 73) ?hr ?_; (case hd => rfl); (case hg => rfl); (case hr => first | (go_simp; done) | (go_simp; rfl) | (go_simp; simp [IntKind.wrap_u8, IntKind.wrap_u32]; done)); intro gb184 hg w28 hbox hb; have n0_ := Aside0.mk (blk_below (g := gb180) (o := .cells #[.int .i64 a0_0, .slice A0_1 l0_1.length c0_1, .int .u32 a0_2, .int .i64 a0_3, .int .i64 a0_4, .slice A0_5 l0_5.length c0_5, .slice (some ad183) l0_6.length c0_6] 34 (0, 0)) (by (with_reducible repeat (first | refine blk_drewN ?_ _ | refine blk_drew ?_ | refine blk_alloc ?_ _)); exact BK180.out) hb); have n1_ := Aside0.mk (below_step (by repeat (first | (with_reducible first | exact HB.out | apply below_alloc | apply pw_below_drewN | apply below_drew1 | refine below_set ?_ GE180.out) | exact HB.out)) hb); have n2_ := Aside0.mk (hbox); have n3_ := Aside0.mk ((by rw [hg]; exact (below_size (by repeat (first | (with_reducible first | exact HB.out | apply below_alloc | apply pw_below_drewN | apply below_drew1 | refine below_set ?_ GE180.out) | exact HB.out))) : w.heap.size ≤ gb184)); have n4_ := Aside0.mk ((by rw [hg]; exact (below_size (by repeat (first | (with_reducible first | exact HB.out | apply below_alloc | apply pw_below_drewN | apply below_drew1 | refine below_set ?_ GE180.out) | exact HB.out))) : w.heap.size ≤ gb184)); have n5_ := Aside0.mk ((by rw [hg]; exact Nat.ne_of_lt (blk_lt (g := gb180) (o := .cells #[.int .i64 a0_0, .slice A0_1 l0_1.length c0_1, .int .u32 a0_2, .int .i64 a0_3, .int .i64 a0_4, .slice A0_5 l0_5.length c0_5, .slice (some ad183) l0_6.length c0_6] 34 (0, 0)) (by (with_reducible repeat (first | refine blk_drewN ?_ _ | refine blk_drew ?_ | refine blk_alloc ?_ _)); exact BK180.out)) : gb180 ≠ gb184)); have n6_ := Aside0.mk ((by rw [hg]; exact Nat.ne_of_gt (blk_lt (g := gb180) (o := .cells #[.int .i64 a0_0, .slice A0_1 l0_1.length c0_1, .int .u32 a0_2, .int .i64 a0_3, .int .i64 a0_4, .slice A0_5 l0_5.length c0_5, .slice (some ad183) l0_6.length c0_6] 34 (0, 0)) (by (with_reducible repeat (first | refine blk_drewN ?_ _ | refine blk_drew ?_ | refine blk_alloc ?_ _)); exact BK180.out)) : gb184 ≠ gb180)); clear BK180; clear HB; have BK180 := n0_; have HB := n1_; have BK184 := n2_; have GW184 := n3_; have GE184 := n4_; have NB180_184 := n5_; have NB184_180 := n6_; clear n0_ n1_ n2_ n3_ n4_ n5_ n6_; clear hb hbox hg; have hnb29 := NB184_180.out; have hnc29 := NB180_184.out; have hcz30_0 : w28.cell? ⟨gb184, 0, none⟩ = some (.int .i64 0) := (blk_cell BK184.out 0).trans rfl; have hcz30_1 : w28.cell? ⟨gb184, 1, none⟩ = some (.int .i64 0) := (blk_cell BK184.out 1).trans rfl; have hcz30_2 : w28.cell? ⟨gb184, 2, none⟩ = some (.slice none 0 0) := (blk_cell BK184.out 2).trans rfl; have hfz30_0 := blk_frozen BK184.out 0; have hfz30_1 := blk_frozen BK184.out 1; have hfz30_2 := blk_frozen BK184.out 2))
  repeat (go_quiet (first | ((with_reducible refine gate_dst (N := 4) rfl ?_); (try (refine gate_guard (by rfl) ?_; dsimp only)); refine box_event ?hg (N := 4) ?hd (cs := #[.int .i64 0, .int .i64 0, .slice none 0 0]) (t := 73) ?hr ?_; (case hd => rfl); (case hg => rfl); (case hr => first | (go_simp; done) | (go_simp; rfl) | (go_simp; simp [IntKind.wrap_u8, IntKind.wrap_u32]; done)); intro gb184 hg w28 hbox hb; have n0_ := Aside0.mk (blk_below (g := gb180) (o := .cells #[.int .i64 a0_0, .slice A0_1 l0_1.length c0_1, .int .u32 a0_2, .int .i64 a0_3, .int .i64 a0_4, .slice A0_5 l0_5.length c0_5, .slice (some ad183) l0_6.length c0_6] 34 (0, 0)) (by (with_reducible repeat (first | refine blk_drewN ?_ _ | refine blk_drew ?_ | refine blk_alloc ?_ _)); exact BK180.out) hb); have n1_ := Aside0.mk (below_step (by repeat (first | (with_reducible first | exact HB.out | apply below_alloc | apply pw_below_drewN | apply below_drew1 | refine below_set ?_ GE180.out) | exact HB.out)) hb); have n2_ := Aside0.mk (hbox); have n3_ := Aside0.mk ((by rw [hg]; exact (below_size (by repeat (first | (with_reducible first | exact HB.out | apply below_alloc | apply pw_below_drewN | apply below_drew1 | refine below_set ?_ GE180.out) | exact HB.out))) : w.heap.size ≤ gb184)); have n4_ := Aside0.mk ((by rw [hg]; exact (below_size (by repeat (first | (with_reducible first | exact HB.out | apply below_alloc | apply pw_below_drewN | apply below_drew1 | refine below_set ?_ GE180.out) | exact HB.out))) : w.heap.size ≤ gb184)); have n5_ := Aside0.mk ((by rw [hg]; exact Nat.ne_of_lt (blk_lt (g := gb180) (o := .cells #[.int .i64 a0_0, .slice A0_1 l0_1.length c0_1, .int .u32 a0_2, .int .i64 a0_3, .int .i64 a0_4, .slice A0_5 l0_5.length c0_5, .slice (some ad183) l0_6.length c0_6] 34 (0, 0)) (by (with_reducible repeat (first | refine blk_drewN ?_ _ | refine blk_drew ?_ | refine blk_alloc ?_ _)); exact BK180.out)) : gb180 ≠ gb184)); have n6_ := Aside0.mk ((by rw [hg]; exact Nat.ne_of_gt (blk_lt (g := gb180) (o := .cells #[.int .i64 a0_0, .slice A0_1 l0_1.length c0_1, .int .u32 a0_2, .int .i64 a0_3, .int .i64 a0_4, .slice A0_5 l0_5.length c0_5, .slice (some ad183) l0_6.length c0_6] 34 (0, 0)) (by (with_reducible repeat (first | refine blk_drewN ?_ _ | refine blk_drew ?_ | refine blk_alloc ?_ _)); exact BK180.out)) : gb184 ≠ gb180)); clear BK180; clear HB; have BK180 := n0_; have HB := n1_; have BK184 := n2_; have GW184 := n3_; have GE184 := n4_; have NB180_184 := n5_; have NB184_180 := n6_; clear n0_ n1_ n2_ n3_ n4_ n5_ n6_; clear hb hbox hg; have hnb29 := NB184_180.out; have hnc29 := NB180_184.out; have hcz30_0 : w28.cell? ⟨gb184, 0, none⟩ = some (.int .i64 0) := (blk_cell BK184.out 0).trans rfl; have hcz30_1 : w28.cell? ⟨gb184, 1, none⟩ = some (.int .i64 0) := (blk_cell BK184.out 1).trans rfl; have hcz30_2 : w28.cell? ⟨gb184, 2, none⟩ = some (.slice none 0 0) := (blk_cell BK184.out 2).trans rfl; have hfz30_0 := blk_frozen BK184.out 0; have hfz30_1 := blk_frozen BK184.out 1; have hfz30_2 := blk_frozen BK184.out 2)); go_upto_region 7 with (first | ((with_reducible refine gate_dst (N := 4) rfl ?_); (try (refine gate_guard (by rfl) ?_; dsimp only)); refine box_event ?hg (N := 4) ?hd (cs := #[.int .i64 0, .int .i64 0, .slice none 0 0]) (t := 73) ?hr ?_; (case hd => rfl); (case hg => rfl); (case hr => first | (go_simp; done) | (go_simp; rfl) | (go_simp; simp [IntKind.wrap_u8, IntKind.wrap_u32]; done)); intro gb184 hg w28 hbox hb; have n0_ := Aside0.mk (blk_below (g := gb180) (o := .cells #[.int .i64 a0_0, .slice A0_1 l0_1.length c0_1, .int .u32 a0_2, .int .i64 a0_3, .int .i64 a0_4, .slice A0_5 l0_5.length c0_5, .slice (some ad183) l0_6.length c0_6] 34 (0, 0)) (by (with_reducible repeat (first | refine blk_drewN ?_ _ | refine blk_drew ?_ | refine blk_alloc ?_ _)); exact BK180.out) hb); have n1_ := Aside0.mk (below_step (by repeat (first | (with_reducible first | exact HB.out | apply below_alloc | apply pw_below_drewN | apply below_drew1 | refine below_set ?_ GE180.out) | exact HB.out)) hb); have n2_ := Aside0.mk (hbox); have n3_ := Aside0.mk ((by rw [hg]; exact (below_size (by repeat (first | (with_reducible first | exact HB.out | apply below_alloc | apply pw_below_drewN | apply below_drew1 | refine below_set ?_ GE180.out) | exact HB.out))) : w.heap.size ≤ gb184)); have n4_ := Aside0.mk ((by rw [hg]; exact (below_size (by repeat (first | (with_reducible first | exact HB.out | apply below_alloc | apply pw_below_drewN | apply below_drew1 | refine below_set ?_ GE180.out) | exact HB.out))) : w.heap.size ≤ gb184)); have n5_ := Aside0.mk ((by rw [hg]; exact Nat.ne_of_lt (blk_lt (g := gb180) (o := .cells #[.int .i64 a0_0, .slice A0_1 l0_1.length c0_1, .int .u32 a0_2, .int .i64 a0_3, .int .i64 a0_4, .slice A0_5 l0_5.length c0_5, .slice (some ad183) l0_6.length c0_6] 34 (0, 0)) (by (with_reducible repeat (first | refine blk_drewN ?_ _ | refine blk_drew ?_ | refine blk_alloc ?_ _)); exact BK180.out)) : gb180 ≠ gb184)); have n6_ := Aside0.mk ((by rw [hg]; exact Nat.ne_of_gt (blk_lt (g := gb180) (o := .cells #[.int .i64 a0_0, .slice A0_1 l0_1.length c0_1, .int .u32 a0_2, .int .i64 a0_3, .int .i64 a0_4, .slice A0_5 l0_5.length c0_5, .slice (some ad183) l0_6.length c0_6] 34 (0, 0)) (by (with_reducible repeat (first | refine blk_drewN ?_ _ | refine blk_drew ?_ | refine blk_alloc ?_ _)); exact BK180.out)) : gb184 ≠ gb180)); clear BK180; clear HB; have BK180 := n0_; have HB := n1_; have BK184 := n2_; have GW184 := n3_; have GE184 := n4_; have NB180_184 := n5_; have NB184_180 := n6_; clear n0_ n1_ n2_ n3_ n4_ n5_ n6_; clear hb hbox hg; have hnb29 := NB184_180.out; have hnc29 := NB180_184.out; have hcz30_0 : w28.cell? ⟨gb184, 0, none⟩ = some (.int .i64 0) := (blk_cell BK184.out 0).trans rfl; have hcz30_1 : w28.cell? ⟨gb184, 1, none⟩ = some (.int .i64 0) := (blk_cell BK184.out 1).trans rfl; have hcz30_2 : w28.cell? ⟨gb184, 2, none⟩ = some (.slice none 0 0) := (blk_cell BK184.out 2).trans rfl; have hfz30_0 := blk_frozen BK184.out 0; have hfz30_1 := blk_frozen BK184.out 1; have hfz30_2 := blk_frozen BK184.out 2)))
  (try simp only [Act.put, q1_, q2_, q3_])
  go_cut [5] (fun v5 wc => ∃ (kq : Nat) (x5_25 : Bool), v5 = .bool x5_25 ∧ Aside0 (interregnumref05_GoodAttrs.j2 kq x3_2 x5_25 a0_0 l0_1 a0_2 a0_3 a0_4 l0_5 l0_6 ((rd_T73 l0_6 x3_2).f0) ((rd_T73 l0_6 x3_2).f1) ((rd_T73 l0_6 x3_2).f2) = some r) ∧ Aside0 (kq ≤ k2) ∧ Aside0 (wc.heap[gb180]? = some (.cells #[.int .i64 a0_0, (.slice A0_1 l0_1.length c0_1), .int .u32 a0_2, .int .i64 a0_3, .int .i64 a0_4, (.slice A0_5 l0_5.length c0_5), (.slice (some ad183) l0_6.length c0_6)] 34 (0, 0))) ∧ Aside0 (wc.heap[gb184]? = some (.cells #[.int .i64 ((rd_T73 l0_6 x3_2).f0), .int .i64 ((rd_T73 l0_6 x3_2).f1), (.slice A183_2 ((rd_T73 l0_6 x3_2).f2).length c183_2)] 73 (0, 0))) ∧ Aside0 (Below w.heap.size w wc))
  case first =>
   have H := HC26.out
   clear HC26
   by_cases c31 : ((rd_T73 l0_6 x3_2).f1) = 6
   rotate_left
   ·rw [if_neg c31] at H
    have c31b0 : (((rd_T73 l0_6 x3_2).f1) == 6) = false := beq_eq_false_iff_ne.mpr c31
    have c31b1 : (((rd_T73 l0_6 x3_2).f1) != 6) = true := bne_iff_ne.mpr c31
    (first | rw [c31b0] | (simp only [i64_w, i32_w]; rw [c31b0]) | skip)
    have H' := Aside0.mk H
    clear H
    have hnb37 := NB184_180.out
    have hnc37 := NB180_184.out
    have hcz38_0 : w28.cell? ⟨gb184, 0, none⟩ = some (.int .i64 0) := (blk_cell BK184.out 0).trans rfl
    have hcz38_1 : w28.cell? ⟨gb184, 1, none⟩ = some (.int .i64 0) := (blk_cell BK184.out 1).trans rfl
    have hcz38_2 : w28.cell? ⟨gb184, 2, none⟩ = some (.slice none 0 0) := (blk_cell BK184.out 2).trans rfl
    have hfz38_0 := blk_frozen BK184.out 0
    have hfz38_1 := blk_frozen BK184.out 1
    have hfz38_2 := blk_frozen BK184.out 2
    go_wp2
    repeat (go_quiet (fail); try go_wp2)
    go_meet
    case rel => exact ⟨_, (false), (by first | rfl | (simp; done) | (simp [*]; done)), H', ⟨by have := HJ1.out; have := HK2.out; first | omega | exact Nat.le_refl _⟩, ⟨by (with_reducible repeat (first | refine blk_drewN ?_ _ | refine blk_drew ?_ | refine blk_alloc ?_ _)); refine blk_far ?_ NB180_184.out _; (with_reducible repeat (first | refine blk_drewN ?_ _ | refine blk_drew ?_ | refine blk_alloc ?_ _)); refine blk_far ?_ NB180_184.out _; (with_reducible repeat (first | refine blk_drewN ?_ _ | refine blk_drew ?_ | refine blk_alloc ?_ _)); refine blk_far ?_ NB180_184.out _; (with_reducible repeat (first | refine blk_drewN ?_ _ | refine blk_drew ?_ | refine blk_alloc ?_ _)); exact BK180.out⟩, ⟨by (with_reducible repeat (first | refine blk_drewN ?_ _ | refine blk_drew ?_ | refine blk_alloc ?_ _)); refine blk_put (cs := #[.int .i64 ((rd_T73 l0_6 x3_2).f0), .int .i64 ((rd_T73 l0_6 x3_2).f1), .slice none 0 0]) ?_ 2 _ rfl; (with_reducible repeat (first | refine blk_drewN ?_ _ | refine blk_drew ?_ | refine blk_alloc ?_ _)); refine blk_put (cs := #[.int .i64 ((rd_T73 l0_6 x3_2).f0), .int .i64 0, .slice none 0 0]) ?_ 1 _ rfl; (with_reducible repeat (first | refine blk_drewN ?_ _ | refine blk_drew ?_ | refine blk_alloc ?_ _)); refine blk_put (cs := #[.int .i64 0, .int .i64 0, .slice none 0 0]) ?_ 0 _ rfl; (with_reducible repeat (first | refine blk_drewN ?_ _ | refine blk_drew ?_ | refine blk_alloc ?_ _)); exact BK184.out⟩, ⟨by repeat (first | (with_reducible first | exact HB.out | apply below_alloc | apply pw_below_drewN | apply below_drew1 | refine below_set ?_ GE180.out | refine below_set ?_ GE184.out) | exact HB.out)⟩⟩
   rw [if_pos c31] at H
   have c31b0 : (((rd_T73 l0_6 x3_2).f1) == 6) = true := beq_iff_eq.mpr c31
   have c31b1 : (((rd_T73 l0_6 x3_2).f1) != 6) = false := bne_eq_false_iff_eq.mpr c31
   clear c31
   (first | rw [c31b0] | (simp only [i64_w, i32_w]; rw [c31b0]) | skip)
   by_cases c32 : ((rd_T73 l0_6 x3_2).f0) = 64
   rotate_left
   ·rw [if_neg c32] at H
    have c32b0 : (((rd_T73 l0_6 x3_2).f0) == 64) = false := beq_eq_false_iff_ne.mpr c32
    have c32b1 : (((rd_T73 l0_6 x3_2).f0) != 64) = true := bne_iff_ne.mpr c32
    have H' := Aside0.mk H
    clear H
    have hnb35 := NB184_180.out
    have hnc35 := NB180_184.out
    have hcz36_0 : w28.cell? ⟨gb184, 0, none⟩ = some (.int .i64 0) := (blk_cell BK184.out 0).trans rfl
    have hcz36_1 : w28.cell? ⟨gb184, 1, none⟩ = some (.int .i64 0) := (blk_cell BK184.out 1).trans rfl
    have hcz36_2 : w28.cell? ⟨gb184, 2, none⟩ = some (.slice none 0 0) := (blk_cell BK184.out 2).trans rfl
    have hfz36_0 := blk_frozen BK184.out 0
    have hfz36_1 := blk_frozen BK184.out 1
    have hfz36_2 := blk_frozen BK184.out 2
    go_wp2
    repeat (go_quiet (fail); try go_wp2)
    go_meet
    case rel => exact ⟨_, (false), (by first | rfl | (simp; done) | (simp [*]; done)), H', ⟨by have := HJ1.out; have := HK2.out; first | omega | exact Nat.le_refl _⟩, ⟨by (with_reducible repeat (first | refine blk_drewN ?_ _ | refine blk_drew ?_ | refine blk_alloc ?_ _)); refine blk_far ?_ NB180_184.out _; (with_reducible repeat (first | refine blk_drewN ?_ _ | refine blk_drew ?_ | refine blk_alloc ?_ _)); refine blk_far ?_ NB180_184.out _; (with_reducible repeat (first | refine blk_drewN ?_ _ | refine blk_drew ?_ | refine blk_alloc ?_ _)); refine blk_far ?_ NB180_184.out _; (with_reducible repeat (first | refine blk_drewN ?_ _ | refine blk_drew ?_ | refine blk_alloc ?_ _)); exact BK180.out⟩, ⟨by (with_reducible repeat (first | refine blk_drewN ?_ _ | refine blk_drew ?_ | refine blk_alloc ?_ _)); refine blk_put (cs := #[.int .i64 ((rd_T73 l0_6 x3_2).f0), .int .i64 ((rd_T73 l0_6 x3_2).f1), .slice none 0 0]) ?_ 2 _ rfl; (with_reducible repeat (first | refine blk_drewN ?_ _ | refine blk_drew ?_ | refine blk_alloc ?_ _)); refine blk_put (cs := #[.int .i64 ((rd_T73 l0_6 x3_2).f0), .int .i64 0, .slice none 0 0]) ?_ 1 _ rfl; (with_reducible repeat (first | refine blk_drewN ?_ _ | refine blk_drew ?_ | refine blk_alloc ?_ _)); refine blk_put (cs := #[.int .i64 0, .int .i64 0, .slice none 0 0]) ?_ 0 _ rfl; (with_reducible repeat (first | refine blk_drewN ?_ _ | refine blk_drew ?_ | refine blk_alloc ?_ _)); exact BK184.out⟩, ⟨by repeat (first | (with_reducible first | exact HB.out | apply below_alloc | apply pw_below_drewN | apply below_drew1 | refine below_set ?_ GE180.out | refine below_set ?_ GE184.out) | exact HB.out)⟩⟩
   rw [if_pos c32] at H
   have c32b0 : (((rd_T73 l0_6 x3_2).f0) == 64) = true := beq_iff_eq.mpr c32
   have c32b1 : (((rd_T73 l0_6 x3_2).f0) != 64) = false := bne_eq_false_iff_eq.mpr c32
   clear c32
   have H' := Aside0.mk H
   clear H
   have hnb33 := NB184_180.out
   have hnc33 := NB180_184.out
   have hcz34_0 : w28.cell? ⟨gb184, 0, none⟩ = some (.int .i64 0) := (blk_cell BK184.out 0).trans rfl
   have hcz34_1 : w28.cell? ⟨gb184, 1, none⟩ = some (.int .i64 0) := (blk_cell BK184.out 1).trans rfl
   have hcz34_2 : w28.cell? ⟨gb184, 2, none⟩ = some (.slice none 0 0) := (blk_cell BK184.out 2).trans rfl
   have hfz34_0 := blk_frozen BK184.out 0
   have hfz34_1 := blk_frozen BK184.out 1
   have hfz34_2 := blk_frozen BK184.out 2
   go_wp2
   repeat (go_quiet (fail); try go_wp2)
   go_meet
   case rel => exact ⟨_, (((((rd_T73 l0_6 x3_2).f2).length : Int) == 0)), (by first | rfl | (simp; done) | (simp [*]; done)), H', ⟨by have := HJ1.out; have := HK2.out; first | omega | exact Nat.le_refl _⟩, ⟨by (with_reducible repeat (first | refine blk_drewN ?_ _ | refine blk_drew ?_ | refine blk_alloc ?_ _)); refine blk_far ?_ NB180_184.out _; (with_reducible repeat (first | refine blk_drewN ?_ _ | refine blk_drew ?_ | refine blk_alloc ?_ _)); refine blk_far ?_ NB180_184.out _; (with_reducible repeat (first | refine blk_drewN ?_ _ | refine blk_drew ?_ | refine blk_alloc ?_ _)); refine blk_far ?_ NB180_184.out _; (with_reducible repeat (first | refine blk_drewN ?_ _ | refine blk_drew ?_ | refine blk_alloc ?_ _)); exact BK180.out⟩, ⟨by (with_reducible repeat (first | refine blk_drewN ?_ _ | refine blk_drew ?_ | refine blk_alloc ?_ _)); refine blk_put (cs := #[.int .i64 ((rd_T73 l0_6 x3_2).f0), .int .i64 ((rd_T73 l0_6 x3_2).f1), .slice none 0 0]) ?_ 2 _ rfl; (with_reducible repeat (first | refine blk_drewN ?_ _ | refine blk_drew ?_ | refine blk_alloc ?_ _)); refine blk_put (cs := #[.int .i64 ((rd_T73 l0_6 x3_2).f0), .int .i64 0, .slice none 0 0]) ?_ 1 _ rfl; (with_reducible repeat (first | refine blk_drewN ?_ _ | refine blk_drew ?_ | refine blk_alloc ?_ _)); refine blk_put (cs := #[.int .i64 0, .int .i64 0, .slice none 0 0]) ?_ 0 _ rfl; (with_reducible repeat (first | refine blk_drewN ?_ _ | refine blk_drew ?_ | refine blk_alloc ?_ _)); exact BK184.out⟩, ⟨by repeat (first | (with_reducible first | exact HB.out | apply below_alloc | apply pw_below_drewN | apply below_drew1 | refine below_set ?_ GE180.out | refine below_set ?_ GE184.out) | exact HB.out)⟩⟩
  case rest =>
   clear HC26
   try clear c1
   try clear p1
   try clear q1
   try clear hx1
   try clear c2
   try clear p2
   try clear c3
   try clear c4
   try clear c4b0
   try clear c6
   try clear c6b0
   try clear c9
   try clear c11
   try clear c12
   try clear c12b0
   try clear c14
   try clear c14b0
   try clear c16
   try clear c16b0
   try clear c18
   try clear c18b0
   try clear p18
   try clear q18
   try clear hx18
   try clear c23
   try clear c24
   try clear c24b0
   try clear c25
   try clear c25b0
   try clear c29
   try clear c31
   try clear c31b0
   try clear c31b1
   try clear c32
   try clear c32b0
   try clear c32b1
   try clear c33
   try clear c35
   try clear c37
   try clear hcz13_0
   try clear hcz13_1
   try clear hcz13_2
   try clear hcz13_3
   try clear hcz13_4
   try clear hcz13_5
   try clear hcz13_6
   try clear hcz15_0
   try clear hcz15_1
   try clear hcz15_2
   try clear hcz15_3
   try clear hcz15_4
   try clear hcz15_5
   try clear hcz15_6
   try clear hcz17_0
   try clear hcz17_1
   try clear hcz17_2
   try clear hcz17_3
   try clear hcz17_4
   try clear hcz17_5
   try clear hcz17_6
   try clear hcz19_0
   try clear hcz19_1
   try clear hcz19_2
   try clear hcz19_3
   try clear hcz19_4
   try clear hcz19_5
   try clear hcz19_6
   try clear hcz20_0
   try clear hcz20_1
   try clear hcz20_2
   try clear hcz20_3
   try clear hcz20_4
   try clear hcz20_5
   try clear hcz20_6
   try clear hcz21_0
   try clear hcz21_1
   try clear hcz21_2
   try clear hcz21_3
   try clear hcz21_4
   try clear hcz21_5
   try clear hcz21_6
   try clear hcz22_0
   try clear hcz22_1
   try clear hcz22_2
   try clear hcz22_3
   try clear hcz22_4
   try clear hcz22_5
   try clear hcz22_6
   try clear hcz27_0
   try clear hcz27_1
   try clear hcz27_2
   try clear hcz27_3
   try clear hcz27_4
   try clear hcz27_5
   try clear hcz27_6
   try clear hcz30_0
   try clear hcz30_1
   try clear hcz30_2
   try clear hcz34_0
   try clear hcz34_1
   try clear hcz34_2
   try clear hcz36_0
   try clear hcz36_1
   try clear hcz36_2
   try clear hcz38_0
   try clear hcz38_1
   try clear hcz38_2
   try clear hcz5_0
   try clear hcz5_1
   try clear hcz5_2
   try clear hcz5_3
   try clear hcz5_4
   try clear hcz5_5
   try clear hcz5_6
   try clear hcz7_0
   try clear hcz7_1
   try clear hcz7_2
   try clear hcz7_3
   try clear hcz7_4
   try clear hcz7_5
   try clear hcz7_6
   try clear hfz13_0
   try clear hfz13_1
   try clear hfz13_2
   try clear hfz13_3
   try clear hfz13_4
   try clear hfz13_5
   try clear hfz13_6
   try clear hfz15_0
   try clear hfz15_1
   try clear hfz15_2
   try clear hfz15_3
   try clear hfz15_4
   try clear hfz15_5
   try clear hfz15_6
   try clear hfz17_0
   try clear hfz17_1
   try clear hfz17_2
   try clear hfz17_3
   try clear hfz17_4
   try clear hfz17_5
   try clear hfz17_6
   try clear hfz19_0
   try clear hfz19_1
   try clear hfz19_2
   try clear hfz19_3
   try clear hfz19_4
   try clear hfz19_5
   try clear hfz19_6
   try clear hfz20_0
   try clear hfz20_1
   try clear hfz20_2
   try clear hfz20_3
   try clear hfz20_4
   try clear hfz20_5
   try clear hfz20_6
   try clear hfz21_0
   try clear hfz21_1
   try clear hfz21_2
   try clear hfz21_3
   try clear hfz21_4
   try clear hfz21_5
   try clear hfz21_6
   try clear hfz22_0
   try clear hfz22_1
   try clear hfz22_2
   try clear hfz22_3
   try clear hfz22_4
   try clear hfz22_5
   try clear hfz22_6
   try clear hfz27_0
   try clear hfz27_1
   try clear hfz27_2
   try clear hfz27_3
   try clear hfz27_4
   try clear hfz27_5
   try clear hfz27_6
   try clear hfz30_0
   try clear hfz30_1
   try clear hfz30_2
   try clear hfz34_0
   try clear hfz34_1
   try clear hfz34_2
   try clear hfz36_0
   try clear hfz36_1
   try clear hfz36_2
   try clear hfz38_0
   try clear hfz38_1
   try clear hfz38_2
   try clear hfz5_0
   try clear hfz5_1
   try clear hfz5_2
   try clear hfz5_3
   try clear hfz5_4
   try clear hfz5_5
   try clear hfz5_6
   try clear hfz7_0
   try clear hfz7_1
   try clear hfz7_2
   try clear hfz7_3
   try clear hfz7_4
   try clear hfz7_5
   try clear hfz7_6
   try clear hx183_0
   try clear hx183_1
   try clear hx183_2
   try clear p183
   try clear p2
   try clear q183
   obtain ⟨kq, x5_25, rfl, HA, HJ25, BK180, BK184, HB⟩ := hcut
   cases kq with
   | zero => exact absurd HA.out (by simp [interregnumref05_GoodAttrs.j2])
   | succ kj25 =>
   have H := HA.out
   clear HA
   simp only [interregnumref05_GoodAttrs.j2] at H
   have HC39 := Aside0.mk H
   clear H
   go_upto_region 8 with (fail)
   repeat (go_quiet (fail); go_upto_region 8 with (fail))
   go_cut [6] (fun v6 wc => ∃ (kq : Nat) (x6_38 : Bool), v6 = .bool x6_38 ∧ Aside0 (interregnumref05_GoodAttrs.j3 kq x3_2 x5_25 x6_38 a0_0 l0_1 a0_2 a0_3 a0_4 l0_5 l0_6 ((rd_T73 l0_6 x3_2).f0) ((rd_T73 l0_6 x3_2).f1) ((rd_T73 l0_6 x3_2).f2) = some r) ∧ Aside0 (kq ≤ kj25) ∧ Aside0 (wc.heap[gb180]? = some (.cells #[.int .i64 a0_0, (.slice A0_1 l0_1.length c0_1), .int .u32 a0_2, .int .i64 a0_3, .int .i64 a0_4, (.slice A0_5 l0_5.length c0_5), (.slice (some ad183) l0_6.length c0_6)] 34 (0, 0))) ∧ Aside0 (wc.heap[gb184]? = some (.cells #[.int .i64 ((rd_T73 l0_6 x3_2).f0), .int .i64 ((rd_T73 l0_6 x3_2).f1), (.slice A183_2 ((rd_T73 l0_6 x3_2).f2).length c183_2)] 73 (0, 0))) ∧ Aside0 (Below w.heap.size w wc))
   case first =>
    have H := HC39.out
    clear HC39
    by_cases c40 : ((rd_T73 l0_6 x3_2).f1) = 7
    rotate_left
    ·rw [if_neg c40] at H
     have c40b0 : (((rd_T73 l0_6 x3_2).f1) == 7) = false := beq_eq_false_iff_ne.mpr c40
     have c40b1 : (((rd_T73 l0_6 x3_2).f1) != 7) = true := bne_iff_ne.mpr c40
     (first | rw [c40b0] | (simp only [i64_w, i32_w]; rw [c40b0]) | skip)
     have H' := Aside0.mk H
     clear H
     have hnb46 := NB184_180.out
     have hnc46 := NB180_184.out
     have hcz47_0 : wc.cell? ⟨gb184, 0, none⟩ = some (.int .i64 ((rd_T73 l0_6 x3_2).f0)) := (blk_cell BK184.out 0).trans rfl
     have hcz47_1 : wc.cell? ⟨gb184, 1, none⟩ = some (.int .i64 ((rd_T73 l0_6 x3_2).f1)) := (blk_cell BK184.out 1).trans rfl
     have hcz47_2 : wc.cell? ⟨gb184, 2, none⟩ = some (.slice A183_2 ((rd_T73 l0_6 x3_2).f2).length c183_2) := (blk_cell BK184.out 2).trans rfl
     have hfz47_0 := blk_frozen BK184.out 0
     have hfz47_1 := blk_frozen BK184.out 1
     have hfz47_2 := blk_frozen BK184.out 2
     go_wp2
     repeat (go_quiet (fail); try go_wp2)
     go_meet
     case rel => exact ⟨_, (false), (by first | rfl | (simp; done) | (simp [*]; done)), H', ⟨by have := HJ1.out; have := HK2.out; have := HJ25.out; first | omega | exact Nat.le_refl _⟩, ⟨by (with_reducible repeat (first | refine blk_drewN ?_ _ | refine blk_drew ?_ | refine blk_alloc ?_ _)); exact BK180.out⟩, ⟨by (with_reducible repeat (first | refine blk_drewN ?_ _ | refine blk_drew ?_ | refine blk_alloc ?_ _)); exact BK184.out⟩, ⟨by repeat (first | (with_reducible first | exact HB.out | apply below_alloc | apply pw_below_drewN | apply below_drew1 | refine below_set ?_ GE180.out | refine below_set ?_ GE184.out) | exact HB.out)⟩⟩
    rw [if_pos c40] at H
    have c40b0 : (((rd_T73 l0_6 x3_2).f1) == 7) = true := beq_iff_eq.mpr c40
    have c40b1 : (((rd_T73 l0_6 x3_2).f1) != 7) = false := bne_eq_false_iff_eq.mpr c40
    clear c40
    (first | rw [c40b0] | (simp only [i64_w, i32_w]; rw [c40b0]) | skip)
    by_cases c41 : ((rd_T73 l0_6 x3_2).f0) = 192
    rotate_left
    ·rw [if_neg c41] at H
     have c41b0 : (((rd_T73 l0_6 x3_2).f0) == 192) = false := beq_eq_false_iff_ne.mpr c41
     have c41b1 : (((rd_T73 l0_6 x3_2).f0) != 192) = true := bne_iff_ne.mpr c41
     have H' := Aside0.mk H
     clear H
     have hnb44 := NB184_180.out
     have hnc44 := NB180_184.out
     have hcz45_0 : wc.cell? ⟨gb184, 0, none⟩ = some (.int .i64 ((rd_T73 l0_6 x3_2).f0)) := (blk_cell BK184.out 0).trans rfl
     have hcz45_1 : wc.cell? ⟨gb184, 1, none⟩ = some (.int .i64 ((rd_T73 l0_6 x3_2).f1)) := (blk_cell BK184.out 1).trans rfl
     have hcz45_2 : wc.cell? ⟨gb184, 2, none⟩ = some (.slice A183_2 ((rd_T73 l0_6 x3_2).f2).length c183_2) := (blk_cell BK184.out 2).trans rfl
     have hfz45_0 := blk_frozen BK184.out 0
     have hfz45_1 := blk_frozen BK184.out 1
     have hfz45_2 := blk_frozen BK184.out 2
     go_wp2
     repeat (go_quiet (fail); try go_wp2)
     go_meet
     case rel => exact ⟨_, (false), (by first | rfl | (simp; done) | (simp [*]; done)), H', ⟨by have := HJ1.out; have := HK2.out; have := HJ25.out; first | omega | exact Nat.le_refl _⟩, ⟨by (with_reducible repeat (first | refine blk_drewN ?_ _ | refine blk_drew ?_ | refine blk_alloc ?_ _)); exact BK180.out⟩, ⟨by (with_reducible repeat (first | refine blk_drewN ?_ _ | refine blk_drew ?_ | refine blk_alloc ?_ _)); exact BK184.out⟩, ⟨by repeat (first | (with_reducible first | exact HB.out | apply below_alloc | apply pw_below_drewN | apply below_drew1 | refine below_set ?_ GE180.out | refine below_set ?_ GE184.out) | exact HB.out)⟩⟩
    rw [if_pos c41] at H
    have c41b0 : (((rd_T73 l0_6 x3_2).f0) == 192) = true := beq_iff_eq.mpr c41
    have c41b1 : (((rd_T73 l0_6 x3_2).f0) != 192) = false := bne_eq_false_iff_eq.mpr c41
    clear c41
    have H' := Aside0.mk H
    clear H
    have hnb42 := NB184_180.out
    have hnc42 := NB180_184.out
    have hcz43_0 : wc.cell? ⟨gb184, 0, none⟩ = some (.int .i64 ((rd_T73 l0_6 x3_2).f0)) := (blk_cell BK184.out 0).trans rfl
    have hcz43_1 : wc.cell? ⟨gb184, 1, none⟩ = some (.int .i64 ((rd_T73 l0_6 x3_2).f1)) := (blk_cell BK184.out 1).trans rfl
    have hcz43_2 : wc.cell? ⟨gb184, 2, none⟩ = some (.slice A183_2 ((rd_T73 l0_6 x3_2).f2).length c183_2) := (blk_cell BK184.out 2).trans rfl
    have hfz43_0 := blk_frozen BK184.out 0
    have hfz43_1 := blk_frozen BK184.out 1
    have hfz43_2 := blk_frozen BK184.out 2
    go_wp2
    repeat (go_quiet (fail); try go_wp2)
    go_meet
    case rel => exact ⟨_, (((((rd_T73 l0_6 x3_2).f2).length : Int) == 8)), (by first | rfl | (simp; done) | (simp [*]; done)), H', ⟨by have := HJ1.out; have := HK2.out; have := HJ25.out; first | omega | exact Nat.le_refl _⟩, ⟨by (with_reducible repeat (first | refine blk_drewN ?_ _ | refine blk_drew ?_ | refine blk_alloc ?_ _)); exact BK180.out⟩, ⟨by (with_reducible repeat (first | refine blk_drewN ?_ _ | refine blk_drew ?_ | refine blk_alloc ?_ _)); exact BK184.out⟩, ⟨by repeat (first | (with_reducible first | exact HB.out | apply below_alloc | apply pw_below_drewN | apply below_drew1 | refine below_set ?_ GE180.out | refine below_set ?_ GE184.out) | exact HB.out)⟩⟩
   case rest =>
    clear HC39
    try clear c1
    try clear p1
    try clear q1
    try clear hx1
    try clear c2
    try clear p2
    try clear c3
    try clear c4
    try clear c4b0
    try clear c6
    try clear c6b0
    try clear c9
    try clear c11
    try clear c12
    try clear c12b0
    try clear c14
    try clear c14b0
    try clear c16
    try clear c16b0
    try clear c18
    try clear c18b0
    try clear p18
    try clear q18
    try clear hx18
    try clear c23
    try clear c24
    try clear c24b0
    try clear c25
    try clear c25b0
    try clear c29
    try clear c31
    try clear c31b0
    try clear c31b1
    try clear c32
    try clear c32b0
    try clear c32b1
    try clear c33
    try clear c35
    try clear c37
    try clear c40
    try clear c40b0
    try clear c40b1
    try clear c41
    try clear c41b0
    try clear c41b1
    try clear c42
    try clear c44
    try clear c46
    try clear hcz13_0
    try clear hcz13_1
    try clear hcz13_2
    try clear hcz13_3
    try clear hcz13_4
    try clear hcz13_5
    try clear hcz13_6
    try clear hcz15_0
    try clear hcz15_1
    try clear hcz15_2
    try clear hcz15_3
    try clear hcz15_4
    try clear hcz15_5
    try clear hcz15_6
    try clear hcz17_0
    try clear hcz17_1
    try clear hcz17_2
    try clear hcz17_3
    try clear hcz17_4
    try clear hcz17_5
    try clear hcz17_6
    try clear hcz19_0
    try clear hcz19_1
    try clear hcz19_2
    try clear hcz19_3
    try clear hcz19_4
    try clear hcz19_5
    try clear hcz19_6
    try clear hcz20_0
    try clear hcz20_1
    try clear hcz20_2
    try clear hcz20_3
    try clear hcz20_4
    try clear hcz20_5
    try clear hcz20_6
    try clear hcz21_0
    try clear hcz21_1
    try clear hcz21_2
    try clear hcz21_3
    try clear hcz21_4
    try clear hcz21_5
    try clear hcz21_6
    try clear hcz22_0
    try clear hcz22_1
    try clear hcz22_2
    try clear hcz22_3
    try clear hcz22_4
    try clear hcz22_5
    try clear hcz22_6
    try clear hcz27_0
    try clear hcz27_1
    try clear hcz27_2
    try clear hcz27_3
    try clear hcz27_4
    try clear hcz27_5
    try clear hcz27_6
    try clear hcz30_0
    try clear hcz30_1
    try clear hcz30_2
    try clear hcz34_0
    try clear hcz34_1
    try clear hcz34_2
    try clear hcz36_0
    try clear hcz36_1
    try clear hcz36_2
    try clear hcz38_0
    try clear hcz38_1
    try clear hcz38_2
    try clear hcz43_0
    try clear hcz43_1
    try clear hcz43_2
    try clear hcz45_0
    try clear hcz45_1
    try clear hcz45_2
    try clear hcz47_0
    try clear hcz47_1
    try clear hcz47_2
    try clear hcz5_0
    try clear hcz5_1
    try clear hcz5_2
    try clear hcz5_3
    try clear hcz5_4
    try clear hcz5_5
    try clear hcz5_6
    try clear hcz7_0
    try clear hcz7_1
    try clear hcz7_2
    try clear hcz7_3
    try clear hcz7_4
    try clear hcz7_5
    try clear hcz7_6
    try clear hfz13_0
    try clear hfz13_1
    try clear hfz13_2
    try clear hfz13_3
    try clear hfz13_4
    try clear hfz13_5
    try clear hfz13_6
    try clear hfz15_0
    try clear hfz15_1
    try clear hfz15_2
    try clear hfz15_3
    try clear hfz15_4
    try clear hfz15_5
    try clear hfz15_6
    try clear hfz17_0
    try clear hfz17_1
    try clear hfz17_2
    try clear hfz17_3
    try clear hfz17_4
    try clear hfz17_5
    try clear hfz17_6
    try clear hfz19_0
    try clear hfz19_1
    try clear hfz19_2
    try clear hfz19_3
    try clear hfz19_4
    try clear hfz19_5
    try clear hfz19_6
    try clear hfz20_0
    try clear hfz20_1
    try clear hfz20_2
    try clear hfz20_3
    try clear hfz20_4
    try clear hfz20_5
    try clear hfz20_6
    try clear hfz21_0
    try clear hfz21_1
    try clear hfz21_2
    try clear hfz21_3
    try clear hfz21_4
    try clear hfz21_5
    try clear hfz21_6
    try clear hfz22_0
    try clear hfz22_1
    try clear hfz22_2
    try clear hfz22_3
    try clear hfz22_4
    try clear hfz22_5
    try clear hfz22_6
    try clear hfz27_0
    try clear hfz27_1
    try clear hfz27_2
    try clear hfz27_3
    try clear hfz27_4
    try clear hfz27_5
    try clear hfz27_6
    try clear hfz30_0
    try clear hfz30_1
    try clear hfz30_2
    try clear hfz34_0
    try clear hfz34_1
    try clear hfz34_2
    try clear hfz36_0
    try clear hfz36_1
    try clear hfz36_2
    try clear hfz38_0
    try clear hfz38_1
    try clear hfz38_2
    try clear hfz43_0
    try clear hfz43_1
    try clear hfz43_2
    try clear hfz45_0
    try clear hfz45_1
    try clear hfz45_2
    try clear hfz47_0
    try clear hfz47_1
    try clear hfz47_2
    try clear hfz5_0
    try clear hfz5_1
    try clear hfz5_2
    try clear hfz5_3
    try clear hfz5_4
    try clear hfz5_5
    try clear hfz5_6
    try clear hfz7_0
    try clear hfz7_1
    try clear hfz7_2
    try clear hfz7_3
    try clear hfz7_4
    try clear hfz7_5
    try clear hfz7_6
    try clear hx183_0
    try clear hx183_1
    try clear hx183_2
    try clear p1
    try clear p18
    try clear p183
    try clear p2
    try clear q1
    try clear q18
    try clear q183
    obtain ⟨kq, x6_38, rfl, HA, HJ38, BK180, BK184, HB⟩ := hcut
    cases kq with
    | zero => exact absurd HA.out (by simp [interregnumref05_GoodAttrs.j3])
    | succ kj38 =>
    have H := HA.out
    clear HA
    simp only [interregnumref05_GoodAttrs.j3] at H
    have HC48 := Aside0.mk H
    clear H
    go_upto_region 9 with (fail)
    repeat (go_quiet (fail); go_upto_region 9 with (fail))
    go_cut [7] (fun v7 wc => ∃ (kq : Nat) (x7_47 : Bool), v7 = .bool x7_47 ∧ Aside0 (interregnumref05_GoodAttrs.j4 kq x3_2 x5_25 x6_38 x7_47 a0_0 l0_1 a0_2 a0_3 a0_4 l0_5 l0_6 ((rd_T73 l0_6 x3_2).f0) ((rd_T73 l0_6 x3_2).f1) ((rd_T73 l0_6 x3_2).f2) = some r) ∧ Aside0 (kq ≤ kj38) ∧ Aside0 (wc.heap[gb180]? = some (.cells #[.int .i64 a0_0, (.slice A0_1 l0_1.length c0_1), .int .u32 a0_2, .int .i64 a0_3, .int .i64 a0_4, (.slice A0_5 l0_5.length c0_5), (.slice (some ad183) l0_6.length c0_6)] 34 (0, 0))) ∧ Aside0 (wc.heap[gb184]? = some (.cells #[.int .i64 ((rd_T73 l0_6 x3_2).f0), .int .i64 ((rd_T73 l0_6 x3_2).f1), (.slice A183_2 ((rd_T73 l0_6 x3_2).f2).length c183_2)] 73 (0, 0))) ∧ Aside0 (Below w.heap.size w wc))
    case first =>
     have H := HC48.out
     clear HC48
     by_cases c49 : ((rd_T73 l0_6 x3_2).f1) > 8
     rotate_left
     ·rw [if_neg c49] at H
      have c49b0 : decide (8 < ((rd_T73 l0_6 x3_2).f1)) = false := decide_eq_false c49
      clear c49
      (first | rw [c49b0] | (simp only [i64_w, i32_w]; rw [c49b0]) | skip)
      have H' := Aside0.mk H
      clear H
      have hnb58 := NB184_180.out
      have hnc58 := NB180_184.out
      have hcz59_0 : wc.cell? ⟨gb184, 0, none⟩ = some (.int .i64 ((rd_T73 l0_6 x3_2).f0)) := (blk_cell BK184.out 0).trans rfl
      have hcz59_1 : wc.cell? ⟨gb184, 1, none⟩ = some (.int .i64 ((rd_T73 l0_6 x3_2).f1)) := (blk_cell BK184.out 1).trans rfl
      have hcz59_2 : wc.cell? ⟨gb184, 2, none⟩ = some (.slice A183_2 ((rd_T73 l0_6 x3_2).f2).length c183_2) := (blk_cell BK184.out 2).trans rfl
      have hfz59_0 := blk_frozen BK184.out 0
      have hfz59_1 := blk_frozen BK184.out 1
      have hfz59_2 := blk_frozen BK184.out 2
      go_wp2
      repeat (go_quiet (fail); try go_wp2)
      go_meet
      case rel => exact ⟨_, (false), (by first | rfl | (simp; done) | (simp [*]; done)), H', ⟨by have := HJ1.out; have := HK2.out; have := HJ25.out; have := HJ38.out; first | omega | exact Nat.le_refl _⟩, ⟨by (with_reducible repeat (first | refine blk_drewN ?_ _ | refine blk_drew ?_ | refine blk_alloc ?_ _)); exact BK180.out⟩, ⟨by (with_reducible repeat (first | refine blk_drewN ?_ _ | refine blk_drew ?_ | refine blk_alloc ?_ _)); exact BK184.out⟩, ⟨by repeat (first | (with_reducible first | exact HB.out | apply below_alloc | apply pw_below_drewN | apply below_drew1 | refine below_set ?_ GE180.out | refine below_set ?_ GE184.out) | exact HB.out)⟩⟩
     rw [if_pos c49] at H
     have c49b0 : decide (8 < ((rd_T73 l0_6 x3_2).f1)) = true := decide_eq_true c49
     clear c49
     (first | rw [c49b0] | (simp only [i64_w, i32_w]; rw [c49b0]) | skip)
     by_cases c50 : ((rd_T73 l0_6 x3_2).f1) ≤ 255
     rotate_left
     ·rw [if_neg c50] at H
      have c50b0 : decide (((rd_T73 l0_6 x3_2).f1) ≤ 255) = false := decide_eq_false c50
      clear c50
      have H' := Aside0.mk H
      clear H
      have hnb56 := NB184_180.out
      have hnc56 := NB180_184.out
      have hcz57_0 : wc.cell? ⟨gb184, 0, none⟩ = some (.int .i64 ((rd_T73 l0_6 x3_2).f0)) := (blk_cell BK184.out 0).trans rfl
      have hcz57_1 : wc.cell? ⟨gb184, 1, none⟩ = some (.int .i64 ((rd_T73 l0_6 x3_2).f1)) := (blk_cell BK184.out 1).trans rfl
      have hcz57_2 : wc.cell? ⟨gb184, 2, none⟩ = some (.slice A183_2 ((rd_T73 l0_6 x3_2).f2).length c183_2) := (blk_cell BK184.out 2).trans rfl
      have hfz57_0 := blk_frozen BK184.out 0
      have hfz57_1 := blk_frozen BK184.out 1
      have hfz57_2 := blk_frozen BK184.out 2
      go_wp2
      repeat (go_quiet (fail); try go_wp2)
      go_meet
      case rel => exact ⟨_, (false), (by first | rfl | (simp; done) | (simp [*]; done)), H', ⟨by have := HJ1.out; have := HK2.out; have := HJ25.out; have := HJ38.out; first | omega | exact Nat.le_refl _⟩, ⟨by (with_reducible repeat (first | refine blk_drewN ?_ _ | refine blk_drew ?_ | refine blk_alloc ?_ _)); exact BK180.out⟩, ⟨by (with_reducible repeat (first | refine blk_drewN ?_ _ | refine blk_drew ?_ | refine blk_alloc ?_ _)); exact BK184.out⟩, ⟨by repeat (first | (with_reducible first | exact HB.out | apply below_alloc | apply pw_below_drewN | apply below_drew1 | refine below_set ?_ GE180.out | refine below_set ?_ GE184.out) | exact HB.out)⟩⟩
     rw [if_pos c50] at H
     have c50b0 : decide (((rd_T73 l0_6 x3_2).f1) ≤ 255) = true := decide_eq_true c50
     clear c50
     by_cases c51 : ((rd_T73 l0_6 x3_2).f0) = 224
     rotate_left
     ·rw [if_neg c51] at H
      have c51b0 : (((rd_T73 l0_6 x3_2).f0) == 224) = false := beq_eq_false_iff_ne.mpr c51
      have c51b1 : (((rd_T73 l0_6 x3_2).f0) != 224) = true := bne_iff_ne.mpr c51
      have H' := Aside0.mk H
      clear H
      have hnb54 := NB184_180.out
      have hnc54 := NB180_184.out
      have hcz55_0 : wc.cell? ⟨gb184, 0, none⟩ = some (.int .i64 ((rd_T73 l0_6 x3_2).f0)) := (blk_cell BK184.out 0).trans rfl
      have hcz55_1 : wc.cell? ⟨gb184, 1, none⟩ = some (.int .i64 ((rd_T73 l0_6 x3_2).f1)) := (blk_cell BK184.out 1).trans rfl
      have hcz55_2 : wc.cell? ⟨gb184, 2, none⟩ = some (.slice A183_2 ((rd_T73 l0_6 x3_2).f2).length c183_2) := (blk_cell BK184.out 2).trans rfl
      have hfz55_0 := blk_frozen BK184.out 0
      have hfz55_1 := blk_frozen BK184.out 1
      have hfz55_2 := blk_frozen BK184.out 2
      go_wp2
      repeat (go_quiet (fail); try go_wp2)
      go_meet
      case rel => exact ⟨_, (false), (by first | rfl | (simp; done) | (simp [*]; done)), H', ⟨by have := HJ1.out; have := HK2.out; have := HJ25.out; have := HJ38.out; first | omega | exact Nat.le_refl _⟩, ⟨by (with_reducible repeat (first | refine blk_drewN ?_ _ | refine blk_drew ?_ | refine blk_alloc ?_ _)); exact BK180.out⟩, ⟨by (with_reducible repeat (first | refine blk_drewN ?_ _ | refine blk_drew ?_ | refine blk_alloc ?_ _)); exact BK184.out⟩, ⟨by repeat (first | (with_reducible first | exact HB.out | apply below_alloc | apply pw_below_drewN | apply below_drew1 | refine below_set ?_ GE180.out | refine below_set ?_ GE184.out) | exact HB.out)⟩⟩
     rw [if_pos c51] at H
     have c51b0 : (((rd_T73 l0_6 x3_2).f0) == 224) = true := beq_iff_eq.mpr c51
     have c51b1 : (((rd_T73 l0_6 x3_2).f0) != 224) = false := bne_eq_false_iff_eq.mpr c51
     clear c51
     have H' := Aside0.mk H
     clear H
     have hnb52 := NB184_180.out
     have hnc52 := NB180_184.out
     have hcz53_0 : wc.cell? ⟨gb184, 0, none⟩ = some (.int .i64 ((rd_T73 l0_6 x3_2).f0)) := (blk_cell BK184.out 0).trans rfl
     have hcz53_1 : wc.cell? ⟨gb184, 1, none⟩ = some (.int .i64 ((rd_T73 l0_6 x3_2).f1)) := (blk_cell BK184.out 1).trans rfl
     have hcz53_2 : wc.cell? ⟨gb184, 2, none⟩ = some (.slice A183_2 ((rd_T73 l0_6 x3_2).f2).length c183_2) := (blk_cell BK184.out 2).trans rfl
     have hfz53_0 := blk_frozen BK184.out 0
     have hfz53_1 := blk_frozen BK184.out 1
     have hfz53_2 := blk_frozen BK184.out 2
     go_wp2
     repeat (go_quiet (fail); try go_wp2)
     go_meet
     case rel => exact ⟨_, (decide ((((rd_T73 l0_6 x3_2).f2).length : Int) ≤ 255)), (by first | rfl | (simp; done) | (simp [*]; done)), H', ⟨by have := HJ1.out; have := HK2.out; have := HJ25.out; have := HJ38.out; first | omega | exact Nat.le_refl _⟩, ⟨by (with_reducible repeat (first | refine blk_drewN ?_ _ | refine blk_drew ?_ | refine blk_alloc ?_ _)); exact BK180.out⟩, ⟨by (with_reducible repeat (first | refine blk_drewN ?_ _ | refine blk_drew ?_ | refine blk_alloc ?_ _)); exact BK184.out⟩, ⟨by repeat (first | (with_reducible first | exact HB.out | apply below_alloc | apply pw_below_drewN | apply below_drew1 | refine below_set ?_ GE180.out | refine below_set ?_ GE184.out) | exact HB.out)⟩⟩
    case rest =>
     clear HC48
     try clear c1
     try clear p1
     try clear q1
     try clear hx1
     try clear c2
     try clear p2
     try clear c3
     try clear c4
     try clear c4b0
     try clear c5
     try clear c6
     try clear c6b0
     try clear c9
     try clear c11
     try clear c12
     try clear c12b0
     try clear c14
     try clear c14b0
     try clear c16
     try clear c16b0
     try clear c18
     try clear c18b0
     try clear p18
     try clear q18
     try clear hx18
     try clear c23
     try clear c24
     try clear c24b0
     try clear c25
     try clear c25b0
     try clear c29
     try clear c31
     try clear c31b0
     try clear c31b1
     try clear c32
     try clear c32b0
     try clear c32b1
     try clear c33
     try clear c35
     try clear c37
     try clear c40
     try clear c40b0
     try clear c40b1
     try clear c41
     try clear c41b0
     try clear c41b1
     try clear c42
     try clear c44
     try clear c46
     try clear c49
     try clear c49b0
     try clear c50
     try clear c50b0
     try clear c51
     try clear c51b0
     try clear c51b1
     try clear c52
     try clear c54
     try clear c56
     try clear c58
     try clear hcz13_0
     try clear hcz13_1
     try clear hcz13_2
     try clear hcz13_3
     try clear hcz13_4
     try clear hcz13_5
     try clear hcz13_6
     try clear hcz15_0
     try clear hcz15_1
     try clear hcz15_2
     try clear hcz15_3
     try clear hcz15_4
     try clear hcz15_5
     try clear hcz15_6
     try clear hcz17_0
     try clear hcz17_1
     try clear hcz17_2
     try clear hcz17_3
     try clear hcz17_4
     try clear hcz17_5
     try clear hcz17_6
     try clear hcz19_0
     try clear hcz19_1
     try clear hcz19_2
     try clear hcz19_3
     try clear hcz19_4
     try clear hcz19_5
     try clear hcz19_6
     try clear hcz20_0
     try clear hcz20_1
     try clear hcz20_2
     try clear hcz20_3
     try clear hcz20_4
     try clear hcz20_5
     try clear hcz20_6
     try clear hcz21_0
     try clear hcz21_1
     try clear hcz21_2
     try clear hcz21_3
     try clear hcz21_4
     try clear hcz21_5
     try clear hcz21_6
     try clear hcz22_0
     try clear hcz22_1
     try clear hcz22_2
     try clear hcz22_3
     try clear hcz22_4
     try clear hcz22_5
     try clear hcz22_6
     try clear hcz27_0
     try clear hcz27_1
     try clear hcz27_2
     try clear hcz27_3
     try clear hcz27_4
     try clear hcz27_5
     try clear hcz27_6
     try clear hcz30_0
     try clear hcz30_1
     try clear hcz30_2
     try clear hcz34_0
     try clear hcz34_1
     try clear hcz34_2
     try clear hcz36_0
     try clear hcz36_1
     try clear hcz36_2
     try clear hcz38_0
     try clear hcz38_1
     try clear hcz38_2
     try clear hcz43_0
     try clear hcz43_1
     try clear hcz43_2
     try clear hcz45_0
     try clear hcz45_1
     try clear hcz45_2
     try clear hcz47_0
     try clear hcz47_1
     try clear hcz47_2
     try clear hcz53_0
     try clear hcz53_1
     try clear hcz53_2
     try clear hcz55_0
     try clear hcz55_1
     try clear hcz55_2
     try clear hcz57_0
     try clear hcz57_1
     try clear hcz57_2
     try clear hcz59_0
     try clear hcz59_1
     try clear hcz59_2
     try clear hcz5_0
     try clear hcz5_1
     try clear hcz5_2
     try clear hcz5_3
     try clear hcz5_4
     try clear hcz5_5
     try clear hcz5_6
     try clear hcz7_0
     try clear hcz7_1
     try clear hcz7_2
     try clear hcz7_3
     try clear hcz7_4
     try clear hcz7_5
     try clear hcz7_6
     try clear hfz13_0
     try clear hfz13_1
     try clear hfz13_2
     try clear hfz13_3
     try clear hfz13_4
     try clear hfz13_5
     try clear hfz13_6
     try clear hfz15_0
     try clear hfz15_1
     try clear hfz15_2
     try clear hfz15_3
     try clear hfz15_4
     try clear hfz15_5
     try clear hfz15_6
     try clear hfz17_0
     try clear hfz17_1
     try clear hfz17_2
     try clear hfz17_3
     try clear hfz17_4
     try clear hfz17_5
     try clear hfz17_6
     try clear hfz19_0
     try clear hfz19_1
     try clear hfz19_2
     try clear hfz19_3
     try clear hfz19_4
     try clear hfz19_5
     try clear hfz19_6
     try clear hfz20_0
     try clear hfz20_1
     try clear hfz20_2
     try clear hfz20_3
     try clear hfz20_4
     try clear hfz20_5
     try clear hfz20_6
     try clear hfz21_0
     try clear hfz21_1
     try clear hfz21_2
     try clear hfz21_3
     try clear hfz21_4
     try clear hfz21_5
     try clear hfz21_6
     try clear hfz22_0
     try clear hfz22_1
     try clear hfz22_2
     try clear hfz22_3
     try clear hfz22_4
     try clear hfz22_5
     try clear hfz22_6
     try clear hfz27_0
     try clear hfz27_1
     try clear hfz27_2
     try clear hfz27_3
     try clear hfz27_4
     try clear hfz27_5
     try clear hfz27_6
     try clear hfz30_0
     try clear hfz30_1
     try clear hfz30_2
     try clear hfz34_0
     try clear hfz34_1
     try clear hfz34_2
     try clear hfz36_0
     try clear hfz36_1
     try clear hfz36_2
     try clear hfz38_0
     try clear hfz38_1
     try clear hfz38_2
     try clear hfz43_0
     try clear hfz43_1
     try clear hfz43_2
     try clear hfz45_0
     try clear hfz45_1
     try clear hfz45_2
     try clear hfz47_0
     try clear hfz47_1
     try clear hfz47_2
     try clear hfz53_0
     try clear hfz53_1
     try clear hfz53_2
     try clear hfz55_0
     try clear hfz55_1
     try clear hfz55_2
     try clear hfz57_0
     try clear hfz57_1
     try clear hfz57_2
     try clear hfz59_0
     try clear hfz59_1
     try clear hfz59_2
     try clear hfz5_0
     try clear hfz5_1
     try clear hfz5_2
     try clear hfz5_3
     try clear hfz5_4
     try clear hfz5_5
     try clear hfz5_6
     try clear hfz7_0
     try clear hfz7_1
     try clear hfz7_2
     try clear hfz7_3
     try clear hfz7_4
     try clear hfz7_5
     try clear hfz7_6
     try clear hx183_0
     try clear hx183_1
     try clear hx183_2
     try clear p1
     try clear p18
     try clear p183
     try clear p2
     try clear q1
     try clear q18
     try clear q183
     obtain ⟨kq, x7_47, rfl, HA, HJ47, BK180, BK184, HB⟩ := hcut
     cases kq with
     | zero => exact absurd HA.out (by simp [interregnumref05_GoodAttrs.j4])
     | succ kj47 =>
     have H := HA.out
     clear HA
     simp only [interregnumref05_GoodAttrs.j4] at H
     have HC60 := Aside0.mk H
     clear H
     go_upto_region 10 with (fail)
     repeat (go_quiet (fail); go_upto_region 10 with (fail))
     go_cut [138] (fun v138 wc => ∃ (kq : Nat) (x138_59 : Bool), v138 = .bool x138_59 ∧ Aside0 (interregnumref05_GoodAttrs.j5 kq x3_2 x138_59 a0_0 l0_1 a0_2 a0_3 a0_4 l0_5 l0_6 = some r) ∧ Aside0 (kq ≤ kj47) ∧ Aside0 (wc.heap[gb180]? = some (.cells #[.int .i64 a0_0, (.slice A0_1 l0_1.length c0_1), .int .u32 a0_2, .int .i64 a0_3, .int .i64 a0_4, (.slice A0_5 l0_5.length c0_5), (.slice (some ad183) l0_6.length c0_6)] 34 (0, 0))) ∧ Aside0 (wc.heap[gb184]? = some (.cells #[.int .i64 ((rd_T73 l0_6 x3_2).f0), .int .i64 ((rd_T73 l0_6 x3_2).f1), (.slice A183_2 ((rd_T73 l0_6 x3_2).f2).length c183_2)] 73 (0, 0))) ∧ Aside0 (Below w.heap.size w wc))
     case first =>
      have H := HC60.out
      clear HC60
      by_cases c61 : x5_25 = true
      ·subst c61
       have H1 : (if x3_2 > 0 then (if 0 ≤ (wrap64 (x3_2 - 1)) then (if (wrap64 (x3_2 - 1)) < (l0_6.length : Int) then (interregnumref05_GoodAttrs.j5 kj47 x3_2 (decide (((rd_T73 l0_6 (wrap64 (x3_2 - 1))).f1) ≥ ((rd_T73 l0_6 x3_2).f1))) a0_0 l0_1 a0_2 a0_3 a0_4 l0_5 l0_6) else (none)) else (none)) else (interregnumref05_GoodAttrs.j5 kj47 x3_2 false a0_0 l0_1 a0_2 a0_3 a0_4 l0_5 l0_6)) = some r := by rw [if_pos rfl] at H; exact H
       clear H
       have H := H1
       clear H1
       by_cases c62 : x3_2 > 0
       rotate_left
       ·rw [if_neg c62] at H
        have c62b0 : decide (0 < x3_2) = false := decide_eq_false c62
        clear c62
        (first | rw [c62b0] | (simp only [i64_w, i32_w]; rw [c62b0]) | skip)
        have H' := Aside0.mk H
        clear H
        go_wp2
        repeat (go_quiet (fail); try go_wp2)
        go_meet
        case rel => exact ⟨_, (false), (by first | rfl | (simp; done) | (simp [*]; done)), H', ⟨by have := HJ1.out; have := HK2.out; have := HJ25.out; have := HJ38.out; have := HJ47.out; first | omega | exact Nat.le_refl _⟩, ⟨by (with_reducible repeat (first | refine blk_drewN ?_ _ | refine blk_drew ?_ | refine blk_alloc ?_ _)); exact BK180.out⟩, ⟨by (with_reducible repeat (first | refine blk_drewN ?_ _ | refine blk_drew ?_ | refine blk_alloc ?_ _)); exact BK184.out⟩, ⟨by repeat (first | (with_reducible first | exact HB.out | apply below_alloc | apply pw_below_drewN | apply below_drew1 | refine below_set ?_ GE180.out | refine below_set ?_ GE184.out) | exact HB.out)⟩⟩
       rw [if_pos c62] at H
       have c62b0 : decide (0 < x3_2) = true := decide_eq_true c62
       clear c62
       (first | rw [c62b0] | (simp only [i64_w, i32_w]; rw [c62b0]) | skip)
       obtain ⟨ji63, hji63⟩ : ∃ j_ : Int, (wrap64 (x3_2 - 1)) = j_ := ⟨_, rfl⟩
       replace H : (if 0 ≤ (ji63) then (if (ji63) < (l0_6.length : Int) then (interregnumref05_GoodAttrs.j5 kj47 x3_2 (decide (((rd_T73 l0_6 (ji63)).f1) ≥ ((rd_T73 l0_6 x3_2).f1))) a0_0 l0_1 a0_2 a0_3 a0_4 l0_5 l0_6) else (none)) else (none)) = some r := by first | (rw [hji63] at H; exact H) | (simp only [hji63] at H ⊢; exact H)
       have hji63w : (IntKind.i64.wrap (x3_2 - 1)) = ji63 := (i64_w _).trans hji63
       by_cases c64 : 0 ≤ (ji63)
       rotate_left
       ·rw [if_neg c64] at H
        exact absurd H (by simp)
       rw [if_pos c64] at H
       have c64b0 : decide (0 ≤ (ji63)) = true := decide_eq_true c64
       clear c64
       by_cases c65 : (ji63) < (l0_6.length : Int)
       rotate_left
       ·rw [if_neg c65] at H
        exact absurd H (by simp)
       rw [if_pos c65] at H
       have c65b0 : decide ((ji63) < (l0_6.length : Int)) = true := decide_eq_true c65
       clear c65
       have H' := Aside0.mk H
       clear H
       have hnb66 := NB180_184.out
       have hnc66 := NB184_180.out
       have hcz67_0 : wc.cell? ⟨gb180, 0, none⟩ = some (.int .i64 a0_0) := (blk_cell BK180.out 0).trans rfl
       have hcz67_1 : wc.cell? ⟨gb180, 1, none⟩ = some (.slice A0_1 l0_1.length c0_1) := (blk_cell BK180.out 1).trans rfl
       have hcz67_2 : wc.cell? ⟨gb180, 2, none⟩ = some (.int .u32 a0_2) := (blk_cell BK180.out 2).trans rfl
       have hcz67_3 : wc.cell? ⟨gb180, 3, none⟩ = some (.int .i64 a0_3) := (blk_cell BK180.out 3).trans rfl
       have hcz67_4 : wc.cell? ⟨gb180, 4, none⟩ = some (.int .i64 a0_4) := (blk_cell BK180.out 4).trans rfl
       have hcz67_5 : wc.cell? ⟨gb180, 5, none⟩ = some (.slice A0_5 l0_5.length c0_5) := (blk_cell BK180.out 5).trans rfl
       have hcz67_6 : wc.cell? ⟨gb180, 6, none⟩ = some (.slice (some ad183) l0_6.length c0_6) := (blk_cell BK180.out 6).trans rfl
       have hfz67_0 := blk_frozen BK180.out 0
       have hfz67_1 := blk_frozen BK180.out 1
       have hfz67_2 := blk_frozen BK180.out 2
       have hfz67_3 := blk_frozen BK180.out 3
       have hfz67_4 := blk_frozen BK180.out 4
       have hfz67_5 := blk_frozen BK180.out 5
       have hfz67_6 := blk_frozen BK180.out 6
       have p185 : 0 ≤ ((ji63) : Int) := of_decide_eq_true (by first | (with_reducible assumption) | assumption)
       have q185 : (ji63) < (l0_6.length : Int) := of_decide_eq_true (by first | (with_reducible assumption) | assumption)
       obtain ⟨ad185, A185_2, c185_2, e185, hx185_0, hx185_1, hx185_2, hl185_2, hi185_2⟩ := at_T73 HR0_6.out (ji63) p185 q185
       obtain rfl : ad183 = ad185 := (by injection e185)
       replace hx185_0 := (HB.out.cell (World.block_lt_of_cell? w _ hx185_0)).trans hx185_0
       replace hx185_1 := (HB.out.cell (World.block_lt_of_cell? w _ hx185_1)).trans hx185_1
       replace hx185_2 := (HB.out.cell (World.block_lt_of_cell? w _ hx185_2)).trans hx185_2
       have HR185_2 := Aside0.mk hi185_2
       have HC185_2 := Aside0.mk hl185_2
       clear hi185_2 hl185_2
       replace p185 := eq_true p185
       replace q185 := eq_true q185
       have hcz68_0 : wc.cell? ⟨gb184, 0, none⟩ = some (.int .i64 ((rd_T73 l0_6 x3_2).f0)) := (blk_cell BK184.out 0).trans rfl
       have hcz68_1 : wc.cell? ⟨gb184, 1, none⟩ = some (.int .i64 ((rd_T73 l0_6 x3_2).f1)) := (blk_cell BK184.out 1).trans rfl
       have hcz68_2 : wc.cell? ⟨gb184, 2, none⟩ = some (.slice A183_2 ((rd_T73 l0_6 x3_2).f2).length c183_2) := (blk_cell BK184.out 2).trans rfl
       have hfz68_0 := blk_frozen BK184.out 0
       have hfz68_1 := blk_frozen BK184.out 1
       have hfz68_2 := blk_frozen BK184.out 2
       go_wp2
       repeat (go_quiet (fail); try go_wp2)
       go_meet
       case rel => exact ⟨_, (decide (((rd_T73 l0_6 (ji63)).f1) ≥ ((rd_T73 l0_6 x3_2).f1))), (by first | rfl | (simp; done) | (simp only [← hji63] <;> (first | rfl | simp)) | (simp [*]; done)), H', ⟨by have := HJ1.out; have := HK2.out; have := HJ25.out; have := HJ38.out; have := HJ47.out; first | omega | exact Nat.le_refl _⟩, ⟨by (with_reducible repeat (first | refine blk_drewN ?_ _ | refine blk_drew ?_ | refine blk_alloc ?_ _)); exact BK180.out⟩, ⟨by (with_reducible repeat (first | refine blk_drewN ?_ _ | refine blk_drew ?_ | refine blk_alloc ?_ _)); exact BK184.out⟩, ⟨by repeat (first | (with_reducible first | exact HB.out | apply below_alloc | apply pw_below_drewN | apply below_drew1 | refine below_set ?_ GE180.out | refine below_set ?_ GE184.out) | exact HB.out)⟩⟩
      replace c61 := Bool.eq_false_iff.mpr c61
      subst c61
      have H1 : (if x6_38 = true then (if x3_2 > 0 then (if 0 ≤ (wrap64 (x3_2 - 1)) then (if (wrap64 (x3_2 - 1)) < (l0_6.length : Int) then (interregnumref05_GoodAttrs.j5 kj47 x3_2 (decide (((rd_T73 l0_6 (wrap64 (x3_2 - 1))).f1) ≥ ((rd_T73 l0_6 x3_2).f1))) a0_0 l0_1 a0_2 a0_3 a0_4 l0_5 l0_6) else (none)) else (none)) else (interregnumref05_GoodAttrs.j5 kj47 x3_2 false a0_0 l0_1 a0_2 a0_3 a0_4 l0_5 l0_6)) else (if x7_47 = true then (if x3_2 > 0 then (if 0 ≤ (wrap64 (x3_2 - 1)) then (if (wrap64 (x3_2 - 1)) < (l0_6.length : Int) then (interregnumref05_GoodAttrs.j5 kj47 x3_2 (decide (((rd_T73 l0_6 (wrap64 (x3_2 - 1))).f1) ≥ ((rd_T73 l0_6 x3_2).f1))) a0_0 l0_1 a0_2 a0_3 a0_4 l0_5 l0_6) else (none)) else (none)) else (interregnumref05_GoodAttrs.j5 kj47 x3_2 false a0_0 l0_1 a0_2 a0_3 a0_4 l0_5 l0_6)) else (interregnumref05_GoodAttrs.j5 kj47 x3_2 true a0_0 l0_1 a0_2 a0_3 a0_4 l0_5 l0_6))) = some r := by rw [if_neg (show ¬ (false = true) by decide)] at H; exact H
      clear H
      have H := H1
      clear H1
      by_cases c69 : x6_38 = true
      ·subst c69
       have H1 : (if x3_2 > 0 then (if 0 ≤ (wrap64 (x3_2 - 1)) then (if (wrap64 (x3_2 - 1)) < (l0_6.length : Int) then (interregnumref05_GoodAttrs.j5 kj47 x3_2 (decide (((rd_T73 l0_6 (wrap64 (x3_2 - 1))).f1) ≥ ((rd_T73 l0_6 x3_2).f1))) a0_0 l0_1 a0_2 a0_3 a0_4 l0_5 l0_6) else (none)) else (none)) else (interregnumref05_GoodAttrs.j5 kj47 x3_2 false a0_0 l0_1 a0_2 a0_3 a0_4 l0_5 l0_6)) = some r := by rw [if_pos rfl] at H; exact H
       clear H
       have H := H1
       clear H1
       by_cases c70 : x3_2 > 0
       rotate_left
       ·rw [if_neg c70] at H
        have c70b0 : decide (0 < x3_2) = false := decide_eq_false c70
        clear c70
        have H' := Aside0.mk H
        clear H
        go_wp2
        repeat (go_quiet (fail); try go_wp2)
        go_meet
        case rel => exact ⟨_, (false), (by first | rfl | (simp; done) | (simp [*]; done)), H', ⟨by have := HJ1.out; have := HK2.out; have := HJ25.out; have := HJ38.out; have := HJ47.out; first | omega | exact Nat.le_refl _⟩, ⟨by (with_reducible repeat (first | refine blk_drewN ?_ _ | refine blk_drew ?_ | refine blk_alloc ?_ _)); exact BK180.out⟩, ⟨by (with_reducible repeat (first | refine blk_drewN ?_ _ | refine blk_drew ?_ | refine blk_alloc ?_ _)); exact BK184.out⟩, ⟨by repeat (first | (with_reducible first | exact HB.out | apply below_alloc | apply pw_below_drewN | apply below_drew1 | refine below_set ?_ GE180.out | refine below_set ?_ GE184.out) | exact HB.out)⟩⟩
       rw [if_pos c70] at H
       have c70b0 : decide (0 < x3_2) = true := decide_eq_true c70
       clear c70
       obtain ⟨ji71, hji71⟩ : ∃ j_ : Int, (wrap64 (x3_2 - 1)) = j_ := ⟨_, rfl⟩
       replace H : (if 0 ≤ (ji71) then (if (ji71) < (l0_6.length : Int) then (interregnumref05_GoodAttrs.j5 kj47 x3_2 (decide (((rd_T73 l0_6 (ji71)).f1) ≥ ((rd_T73 l0_6 x3_2).f1))) a0_0 l0_1 a0_2 a0_3 a0_4 l0_5 l0_6) else (none)) else (none)) = some r := by first | (rw [hji71] at H; exact H) | (simp only [hji71] at H ⊢; exact H)
       have hji71w : (IntKind.i64.wrap (x3_2 - 1)) = ji71 := (i64_w _).trans hji71
       by_cases c72 : 0 ≤ (ji71)
       rotate_left
       ·rw [if_neg c72] at H
        exact absurd H (by simp)
       rw [if_pos c72] at H
       have c72b0 : decide (0 ≤ (ji71)) = true := decide_eq_true c72
       clear c72
       by_cases c73 : (ji71) < (l0_6.length : Int)
       rotate_left
       ·rw [if_neg c73] at H
        exact absurd H (by simp)
       rw [if_pos c73] at H
       have c73b0 : decide ((ji71) < (l0_6.length : Int)) = true := decide_eq_true c73
       clear c73
       have H' := Aside0.mk H
       clear H
       have hnb74 := NB180_184.out
       have hnc74 := NB184_180.out
       have hcz75_0 : wc.cell? ⟨gb180, 0, none⟩ = some (.int .i64 a0_0) := (blk_cell BK180.out 0).trans rfl
       have hcz75_1 : wc.cell? ⟨gb180, 1, none⟩ = some (.slice A0_1 l0_1.length c0_1) := (blk_cell BK180.out 1).trans rfl
       have hcz75_2 : wc.cell? ⟨gb180, 2, none⟩ = some (.int .u32 a0_2) := (blk_cell BK180.out 2).trans rfl
       have hcz75_3 : wc.cell? ⟨gb180, 3, none⟩ = some (.int .i64 a0_3) := (blk_cell BK180.out 3).trans rfl
       have hcz75_4 : wc.cell? ⟨gb180, 4, none⟩ = some (.int .i64 a0_4) := (blk_cell BK180.out 4).trans rfl
       have hcz75_5 : wc.cell? ⟨gb180, 5, none⟩ = some (.slice A0_5 l0_5.length c0_5) := (blk_cell BK180.out 5).trans rfl
       have hcz75_6 : wc.cell? ⟨gb180, 6, none⟩ = some (.slice (some ad183) l0_6.length c0_6) := (blk_cell BK180.out 6).trans rfl
       have hfz75_0 := blk_frozen BK180.out 0
       have hfz75_1 := blk_frozen BK180.out 1
       have hfz75_2 := blk_frozen BK180.out 2
       have hfz75_3 := blk_frozen BK180.out 3
       have hfz75_4 := blk_frozen BK180.out 4
       have hfz75_5 := blk_frozen BK180.out 5
       have hfz75_6 := blk_frozen BK180.out 6
       have p186 : 0 ≤ ((ji71) : Int) := of_decide_eq_true (by first | (with_reducible assumption) | assumption)
       have q186 : (ji71) < (l0_6.length : Int) := of_decide_eq_true (by first | (with_reducible assumption) | assumption)
       obtain ⟨ad186, A186_2, c186_2, e186, hx186_0, hx186_1, hx186_2, hl186_2, hi186_2⟩ := at_T73 HR0_6.out (ji71) p186 q186
       obtain rfl : ad183 = ad186 := (by injection e186)
       replace hx186_0 := (HB.out.cell (World.block_lt_of_cell? w _ hx186_0)).trans hx186_0
       replace hx186_1 := (HB.out.cell (World.block_lt_of_cell? w _ hx186_1)).trans hx186_1
       replace hx186_2 := (HB.out.cell (World.block_lt_of_cell? w _ hx186_2)).trans hx186_2
       have HR186_2 := Aside0.mk hi186_2
       have HC186_2 := Aside0.mk hl186_2
       clear hi186_2 hl186_2
       replace p186 := eq_true p186
       replace q186 := eq_true q186
       have hcz76_0 : wc.cell? ⟨gb184, 0, none⟩ = some (.int .i64 ((rd_T73 l0_6 x3_2).f0)) := (blk_cell BK184.out 0).trans rfl
       have hcz76_1 : wc.cell? ⟨gb184, 1, none⟩ = some (.int .i64 ((rd_T73 l0_6 x3_2).f1)) := (blk_cell BK184.out 1).trans rfl
       have hcz76_2 : wc.cell? ⟨gb184, 2, none⟩ = some (.slice A183_2 ((rd_T73 l0_6 x3_2).f2).length c183_2) := (blk_cell BK184.out 2).trans rfl
       have hfz76_0 := blk_frozen BK184.out 0
       have hfz76_1 := blk_frozen BK184.out 1
       have hfz76_2 := blk_frozen BK184.out 2
       go_wp2
       repeat (go_quiet (fail); try go_wp2)
       go_meet
       case rel => exact ⟨_, (decide (((rd_T73 l0_6 (ji71)).f1) ≥ ((rd_T73 l0_6 x3_2).f1))), (by first | rfl | (simp; done) | (simp only [← hji71] <;> (first | rfl | simp)) | (simp [*]; done)), H', ⟨by have := HJ1.out; have := HK2.out; have := HJ25.out; have := HJ38.out; have := HJ47.out; first | omega | exact Nat.le_refl _⟩, ⟨by (with_reducible repeat (first | refine blk_drewN ?_ _ | refine blk_drew ?_ | refine blk_alloc ?_ _)); exact BK180.out⟩, ⟨by (with_reducible repeat (first | refine blk_drewN ?_ _ | refine blk_drew ?_ | refine blk_alloc ?_ _)); exact BK184.out⟩, ⟨by repeat (first | (with_reducible first | exact HB.out | apply below_alloc | apply pw_below_drewN | apply below_drew1 | refine below_set ?_ GE180.out | refine below_set ?_ GE184.out) | exact HB.out)⟩⟩
      replace c69 := Bool.eq_false_iff.mpr c69
      subst c69
      have H1 : (if x7_47 = true then (if x3_2 > 0 then (if 0 ≤ (wrap64 (x3_2 - 1)) then (if (wrap64 (x3_2 - 1)) < (l0_6.length : Int) then (interregnumref05_GoodAttrs.j5 kj47 x3_2 (decide (((rd_T73 l0_6 (wrap64 (x3_2 - 1))).f1) ≥ ((rd_T73 l0_6 x3_2).f1))) a0_0 l0_1 a0_2 a0_3 a0_4 l0_5 l0_6) else (none)) else (none)) else (interregnumref05_GoodAttrs.j5 kj47 x3_2 false a0_0 l0_1 a0_2 a0_3 a0_4 l0_5 l0_6)) else (interregnumref05_GoodAttrs.j5 kj47 x3_2 true a0_0 l0_1 a0_2 a0_3 a0_4 l0_5 l0_6)) = some r := by rw [if_neg (show ¬ (false = true) by decide)] at H; exact H
      clear H
      have H := H1
      clear H1
      by_cases c77 : x7_47 = true
      rotate_left
      ·replace c77 := Bool.eq_false_iff.mpr c77
       subst c77
       have H1 : (interregnumref05_GoodAttrs.j5 kj47 x3_2 true a0_0 l0_1 a0_2 a0_3 a0_4 l0_5 l0_6) = some r := by rw [if_neg (show ¬ (false = true) by decide)] at H; exact H
       clear H
       have H := H1
       clear H1
       have H' := Aside0.mk H
       clear H
       go_wp2
       repeat (go_quiet (fail); try go_wp2)
       go_meet
       case rel => exact ⟨_, (true), (by first | rfl | (simp; done) | (simp [*]; done)), H', ⟨by have := HJ1.out; have := HK2.out; have := HJ25.out; have := HJ38.out; have := HJ47.out; first | omega | exact Nat.le_refl _⟩, ⟨by (with_reducible repeat (first | refine blk_drewN ?_ _ | refine blk_drew ?_ | refine blk_alloc ?_ _)); exact BK180.out⟩, ⟨by (with_reducible repeat (first | refine blk_drewN ?_ _ | refine blk_drew ?_ | refine blk_alloc ?_ _)); exact BK184.out⟩, ⟨by repeat (first | (with_reducible first | exact HB.out | apply below_alloc | apply pw_below_drewN | apply below_drew1 | refine below_set ?_ GE180.out | refine below_set ?_ GE184.out) | exact HB.out)⟩⟩
      subst c77
      have H1 : (if x3_2 > 0 then (if 0 ≤ (wrap64 (x3_2 - 1)) then (if (wrap64 (x3_2 - 1)) < (l0_6.length : Int) then (interregnumref05_GoodAttrs.j5 kj47 x3_2 (decide (((rd_T73 l0_6 (wrap64 (x3_2 - 1))).f1) ≥ ((rd_T73 l0_6 x3_2).f1))) a0_0 l0_1 a0_2 a0_3 a0_4 l0_5 l0_6) else (none)) else (none)) else (interregnumref05_GoodAttrs.j5 kj47 x3_2 false a0_0 l0_1 a0_2 a0_3 a0_4 l0_5 l0_6)) = some r := by rw [if_pos rfl] at H; exact H
      clear H
      have H := H1
      clear H1
      by_cases c78 : x3_2 > 0
      rotate_left
      ·rw [if_neg c78] at H
       have c78b0 : decide (0 < x3_2) = false := decide_eq_false c78
       clear c78
       have H' := Aside0.mk H
       clear H
       go_wp2
       repeat (go_quiet (fail); try go_wp2)
       go_meet
       case rel => exact ⟨_, (false), (by first | rfl | (simp; done) | (simp [*]; done)), H', ⟨by have := HJ1.out; have := HK2.out; have := HJ25.out; have := HJ38.out; have := HJ47.out; first | omega | exact Nat.le_refl _⟩, ⟨by (with_reducible repeat (first | refine blk_drewN ?_ _ | refine blk_drew ?_ | refine blk_alloc ?_ _)); exact BK180.out⟩, ⟨by (with_reducible repeat (first | refine blk_drewN ?_ _ | refine blk_drew ?_ | refine blk_alloc ?_ _)); exact BK184.out⟩, ⟨by repeat (first | (with_reducible first | exact HB.out | apply below_alloc | apply pw_below_drewN | apply below_drew1 | refine below_set ?_ GE180.out | refine below_set ?_ GE184.out) | exact HB.out)⟩⟩
      rw [if_pos c78] at H
      have c78b0 : decide (0 < x3_2) = true := decide_eq_true c78
      clear c78
      obtain ⟨ji79, hji79⟩ : ∃ j_ : Int, (wrap64 (x3_2 - 1)) = j_ := ⟨_, rfl⟩
      replace H : (if 0 ≤ (ji79) then (if (ji79) < (l0_6.length : Int) then (interregnumref05_GoodAttrs.j5 kj47 x3_2 (decide (((rd_T73 l0_6 (ji79)).f1) ≥ ((rd_T73 l0_6 x3_2).f1))) a0_0 l0_1 a0_2 a0_3 a0_4 l0_5 l0_6) else (none)) else (none)) = some r := by first | (rw [hji79] at H; exact H) | (simp only [hji79] at H ⊢; exact H)
      have hji79w : (IntKind.i64.wrap (x3_2 - 1)) = ji79 := (i64_w _).trans hji79
      by_cases c80 : 0 ≤ (ji79)
      rotate_left
      ·rw [if_neg c80] at H
       exact absurd H (by simp)
      rw [if_pos c80] at H
      have c80b0 : decide (0 ≤ (ji79)) = true := decide_eq_true c80
      clear c80
      by_cases c81 : (ji79) < (l0_6.length : Int)
      rotate_left
      ·rw [if_neg c81] at H
       exact absurd H (by simp)
      rw [if_pos c81] at H
      have c81b0 : decide ((ji79) < (l0_6.length : Int)) = true := decide_eq_true c81
      clear c81
      have H' := Aside0.mk H
      clear H
      have hnb82 := NB180_184.out
      have hnc82 := NB184_180.out
      have hcz83_0 : wc.cell? ⟨gb180, 0, none⟩ = some (.int .i64 a0_0) := (blk_cell BK180.out 0).trans rfl
      have hcz83_1 : wc.cell? ⟨gb180, 1, none⟩ = some (.slice A0_1 l0_1.length c0_1) := (blk_cell BK180.out 1).trans rfl
      have hcz83_2 : wc.cell? ⟨gb180, 2, none⟩ = some (.int .u32 a0_2) := (blk_cell BK180.out 2).trans rfl
      have hcz83_3 : wc.cell? ⟨gb180, 3, none⟩ = some (.int .i64 a0_3) := (blk_cell BK180.out 3).trans rfl
      have hcz83_4 : wc.cell? ⟨gb180, 4, none⟩ = some (.int .i64 a0_4) := (blk_cell BK180.out 4).trans rfl
      have hcz83_5 : wc.cell? ⟨gb180, 5, none⟩ = some (.slice A0_5 l0_5.length c0_5) := (blk_cell BK180.out 5).trans rfl
      have hcz83_6 : wc.cell? ⟨gb180, 6, none⟩ = some (.slice (some ad183) l0_6.length c0_6) := (blk_cell BK180.out 6).trans rfl
      have hfz83_0 := blk_frozen BK180.out 0
      have hfz83_1 := blk_frozen BK180.out 1
      have hfz83_2 := blk_frozen BK180.out 2
      have hfz83_3 := blk_frozen BK180.out 3
      have hfz83_4 := blk_frozen BK180.out 4
      have hfz83_5 := blk_frozen BK180.out 5
      have hfz83_6 := blk_frozen BK180.out 6
      have p187 : 0 ≤ ((ji79) : Int) := of_decide_eq_true (by first | (with_reducible assumption) | assumption)
      have q187 : (ji79) < (l0_6.length : Int) := of_decide_eq_true (by first | (with_reducible assumption) | assumption)
      obtain ⟨ad187, A187_2, c187_2, e187, hx187_0, hx187_1, hx187_2, hl187_2, hi187_2⟩ := at_T73 HR0_6.out (ji79) p187 q187
      obtain rfl : ad183 = ad187 := (by injection e187)
      replace hx187_0 := (HB.out.cell (World.block_lt_of_cell? w _ hx187_0)).trans hx187_0
      replace hx187_1 := (HB.out.cell (World.block_lt_of_cell? w _ hx187_1)).trans hx187_1
      replace hx187_2 := (HB.out.cell (World.block_lt_of_cell? w _ hx187_2)).trans hx187_2
      have HR187_2 := Aside0.mk hi187_2
      have HC187_2 := Aside0.mk hl187_2
      clear hi187_2 hl187_2
      replace p187 := eq_true p187
      replace q187 := eq_true q187
      have hcz84_0 : wc.cell? ⟨gb184, 0, none⟩ = some (.int .i64 ((rd_T73 l0_6 x3_2).f0)) := (blk_cell BK184.out 0).trans rfl
      have hcz84_1 : wc.cell? ⟨gb184, 1, none⟩ = some (.int .i64 ((rd_T73 l0_6 x3_2).f1)) := (blk_cell BK184.out 1).trans rfl
      have hcz84_2 : wc.cell? ⟨gb184, 2, none⟩ = some (.slice A183_2 ((rd_T73 l0_6 x3_2).f2).length c183_2) := (blk_cell BK184.out 2).trans rfl
      have hfz84_0 := blk_frozen BK184.out 0
      have hfz84_1 := blk_frozen BK184.out 1
      have hfz84_2 := blk_frozen BK184.out 2
      go_wp2
      repeat (go_quiet (fail); try go_wp2)
      go_meet
      case rel => exact ⟨_, (decide (((rd_T73 l0_6 (ji79)).f1) ≥ ((rd_T73 l0_6 x3_2).f1))), (by first | rfl | (simp; done) | (simp only [← hji79] <;> (first | rfl | simp)) | (simp [*]; done)), H', ⟨by have := HJ1.out; have := HK2.out; have := HJ25.out; have := HJ38.out; have := HJ47.out; first | omega | exact Nat.le_refl _⟩, ⟨by (with_reducible repeat (first | refine blk_drewN ?_ _ | refine blk_drew ?_ | refine blk_alloc ?_ _)); exact BK180.out⟩, ⟨by (with_reducible repeat (first | refine blk_drewN ?_ _ | refine blk_drew ?_ | refine blk_alloc ?_ _)); exact BK184.out⟩, ⟨by repeat (first | (with_reducible first | exact HB.out | apply below_alloc | apply pw_below_drewN | apply below_drew1 | refine below_set ?_ GE180.out | refine below_set ?_ GE184.out) | exact HB.out)⟩⟩
     case rest =>
      clear HC60
      try clear c1
      try clear p1
      try clear q1
      try clear hx1
      try clear c2
      try clear p2
      try clear c3
      try clear c4
      try clear c4b0
      try clear c5
      try clear c6
      try clear c6b0
      try clear p6
      try clear c7
      try clear c8
      try clear c9
      try clear c11
      try clear c12
      try clear c12b0
      try clear c14
      try clear c14b0
      try clear c16
      try clear c16b0
      try clear c18
      try clear c18b0
      try clear p18
      try clear q18
      try clear hx18
      try clear c23
      try clear c24
      try clear c24b0
      try clear c25
      try clear c25b0
      try clear c29
      try clear c31
      try clear c31b0
      try clear c31b1
      try clear c32
      try clear c32b0
      try clear c32b1
      try clear c33
      try clear c35
      try clear c37
      try clear c40
      try clear c40b0
      try clear c40b1
      try clear c41
      try clear c41b0
      try clear c41b1
      try clear c42
      try clear c44
      try clear c46
      try clear c49
      try clear c49b0
      try clear c50
      try clear c50b0
      try clear c51
      try clear c51b0
      try clear c51b1
      try clear c52
      try clear c54
      try clear c56
      try clear c58
      try clear c61
      try clear c62
      try clear c62b0
      try clear c64
      try clear c64b0
      try clear p64
      try clear c65
      try clear c65b0
      try clear c66
      try clear c69
      try clear c70
      try clear c70b0
      try clear c72
      try clear c72b0
      try clear c73
      try clear c73b0
      try clear c74
      try clear c77
      try clear c78
      try clear c78b0
      try clear c80
      try clear c80b0
      try clear c81
      try clear c81b0
      try clear c82
      try clear hcz13_0
      try clear hcz13_1
      try clear hcz13_2
      try clear hcz13_3
      try clear hcz13_4
      try clear hcz13_5
      try clear hcz13_6
      try clear hcz15_0
      try clear hcz15_1
      try clear hcz15_2
      try clear hcz15_3
      try clear hcz15_4
      try clear hcz15_5
      try clear hcz15_6
      try clear hcz17_0
      try clear hcz17_1
      try clear hcz17_2
      try clear hcz17_3
      try clear hcz17_4
      try clear hcz17_5
      try clear hcz17_6
      try clear hcz19_0
      try clear hcz19_1
      try clear hcz19_2
      try clear hcz19_3
      try clear hcz19_4
      try clear hcz19_5
      try clear hcz19_6
      try clear hcz20_0
      try clear hcz20_1
      try clear hcz20_2
      try clear hcz20_3
      try clear hcz20_4
      try clear hcz20_5
      try clear hcz20_6
      try clear hcz21_0
      try clear hcz21_1
      try clear hcz21_2
      try clear hcz21_3
      try clear hcz21_4
      try clear hcz21_5
      try clear hcz21_6
      try clear hcz22_0
      try clear hcz22_1
      try clear hcz22_2
      try clear hcz22_3
      try clear hcz22_4
      try clear hcz22_5
      try clear hcz22_6
      try clear hcz27_0
      try clear hcz27_1
      try clear hcz27_2
      try clear hcz27_3
      try clear hcz27_4
      try clear hcz27_5
      try clear hcz27_6
      try clear hcz30_0
      try clear hcz30_1
      try clear hcz30_2
      try clear hcz34_0
      try clear hcz34_1
      try clear hcz34_2
      try clear hcz36_0
      try clear hcz36_1
      try clear hcz36_2
      try clear hcz38_0
      try clear hcz38_1
      try clear hcz38_2
      try clear hcz43_0
      try clear hcz43_1
      try clear hcz43_2
      try clear hcz45_0
      try clear hcz45_1
      try clear hcz45_2
      try clear hcz47_0
      try clear hcz47_1
      try clear hcz47_2
      try clear hcz53_0
      try clear hcz53_1
      try clear hcz53_2
      try clear hcz55_0
      try clear hcz55_1
      try clear hcz55_2
      try clear hcz57_0
      try clear hcz57_1
      try clear hcz57_2
      try clear hcz59_0
      try clear hcz59_1
      try clear hcz59_2
      try clear hcz5_0
      try clear hcz5_1
      try clear hcz5_2
      try clear hcz5_3
      try clear hcz5_4
      try clear hcz5_5
      try clear hcz5_6
      try clear hcz67_0
      try clear hcz67_1
      try clear hcz67_2
      try clear hcz67_3
      try clear hcz67_4
      try clear hcz67_5
      try clear hcz67_6
      try clear hcz68_0
      try clear hcz68_1
      try clear hcz68_2
      try clear hcz75_0
      try clear hcz75_1
      try clear hcz75_2
      try clear hcz75_3
      try clear hcz75_4
      try clear hcz75_5
      try clear hcz75_6
      try clear hcz76_0
      try clear hcz76_1
      try clear hcz76_2
      try clear hcz7_0
      try clear hcz7_1
      try clear hcz7_2
      try clear hcz7_3
      try clear hcz7_4
      try clear hcz7_5
      try clear hcz7_6
      try clear hcz83_0
      try clear hcz83_1
      try clear hcz83_2
      try clear hcz83_3
      try clear hcz83_4
      try clear hcz83_5
      try clear hcz83_6
      try clear hcz84_0
      try clear hcz84_1
      try clear hcz84_2
      try clear hfz13_0
      try clear hfz13_1
      try clear hfz13_2
      try clear hfz13_3
      try clear hfz13_4
      try clear hfz13_5
      try clear hfz13_6
      try clear hfz15_0
      try clear hfz15_1
      try clear hfz15_2
      try clear hfz15_3
      try clear hfz15_4
      try clear hfz15_5
      try clear hfz15_6
      try clear hfz17_0
      try clear hfz17_1
      try clear hfz17_2
      try clear hfz17_3
      try clear hfz17_4
      try clear hfz17_5
      try clear hfz17_6
      try clear hfz19_0
      try clear hfz19_1
      try clear hfz19_2
      try clear hfz19_3
      try clear hfz19_4
      try clear hfz19_5
      try clear hfz19_6
      try clear hfz20_0
      try clear hfz20_1
      try clear hfz20_2
      try clear hfz20_3
      try clear hfz20_4
      try clear hfz20_5
      try clear hfz20_6
      try clear hfz21_0
      try clear hfz21_1
      try clear hfz21_2
      try clear hfz21_3
      try clear hfz21_4
      try clear hfz21_5
      try clear hfz21_6
      try clear hfz22_0
      try clear hfz22_1
      try clear hfz22_2
      try clear hfz22_3
      try clear hfz22_4
      try clear hfz22_5
      try clear hfz22_6
      try clear hfz27_0
      try clear hfz27_1
      try clear hfz27_2
      try clear hfz27_3
      try clear hfz27_4
      try clear hfz27_5
      try clear hfz27_6
      try clear hfz30_0
      try clear hfz30_1
      try clear hfz30_2
      try clear hfz34_0
      try clear hfz34_1
      try clear hfz34_2
      try clear hfz36_0
      try clear hfz36_1
      try clear hfz36_2
      try clear hfz38_0
      try clear hfz38_1
      try clear hfz38_2
      try clear hfz43_0
      try clear hfz43_1
      try clear hfz43_2
      try clear hfz45_0
      try clear hfz45_1
      try clear hfz45_2
      try clear hfz47_0
      try clear hfz47_1
      try clear hfz47_2
      try clear hfz53_0
      try clear hfz53_1
      try clear hfz53_2
      try clear hfz55_0
      try clear hfz55_1
      try clear hfz55_2
      try clear hfz57_0
      try clear hfz57_1
      try clear hfz57_2
      try clear hfz59_0
      try clear hfz59_1
      try clear hfz59_2
      try clear hfz5_0
      try clear hfz5_1
      try clear hfz5_2
      try clear hfz5_3
      try clear hfz5_4
      try clear hfz5_5
      try clear hfz5_6
      try clear hfz67_0
      try clear hfz67_1
      try clear hfz67_2
      try clear hfz67_3
      try clear hfz67_4
      try clear hfz67_5
      try clear hfz67_6
      try clear hfz68_0
      try clear hfz68_1
      try clear hfz68_2
      try clear hfz75_0
      try clear hfz75_1
      try clear hfz75_2
      try clear hfz75_3
      try clear hfz75_4
      try clear hfz75_5
      try clear hfz75_6
      try clear hfz76_0
      try clear hfz76_1
      try clear hfz76_2
      try clear hfz7_0
      try clear hfz7_1
      try clear hfz7_2
      try clear hfz7_3
      try clear hfz7_4
      try clear hfz7_5
      try clear hfz7_6
      try clear hfz83_0
      try clear hfz83_1
      try clear hfz83_2
      try clear hfz83_3
      try clear hfz83_4
      try clear hfz83_5
      try clear hfz83_6
      try clear hfz84_0
      try clear hfz84_1
      try clear hfz84_2
      try clear hx183_0
      try clear hx183_1
      try clear hx183_2
      try clear hx185_0
      try clear hx185_1
      try clear hx185_2
      try clear hx186_0
      try clear hx186_1
      try clear hx186_2
      try clear hx187_0
      try clear hx187_1
      try clear hx187_2
      try clear p1
      try clear p18
      try clear p183
      try clear p185
      try clear p186
      try clear p187
      try clear p2
      try clear q1
      try clear q18
      try clear q183
      try clear q185
      try clear q186
      try clear q187
      obtain ⟨kq, x138_59, rfl, HA, HJ59, BK180, BK184, HB⟩ := hcut
      cases kq with
      | zero => exact absurd HA.out (by simp [interregnumref05_GoodAttrs.j5])
      | succ kj59 =>
      have H := HA.out
      clear HA
      simp only [interregnumref05_GoodAttrs.j5] at H
      by_cases c85 : x138_59 = true
      ·subst c85
       have H1 : (some false) = some r := by rw [if_pos rfl] at H; exact H
       clear H
       have H := H1
       clear H1
       obtain rfl := Option.some.inj H
       go_wp2
       repeat (go_quiet (fail); try go_wp2)
       go_ret
       exact ⟨by first | rfl | (simp [errW_none, errW_some] <;> rfl) | (simp [*, errW_none, errW_some] <;> rfl), by repeat (first | (with_reducible first | exact HB.out | apply below_alloc | apply pw_below_drewN | apply below_drew1 | refine below_set ?_ GE180.out | refine below_set ?_ GE184.out) | exact HB.out)⟩
      replace c85 := Bool.eq_false_iff.mpr c85
      subst c85
      have H1 : (interregnumref05_GoodAttrs.l0 kj59 (wrap64 (x3_2 + 1)) a0_0 l0_1 a0_2 a0_3 a0_4 l0_5 l0_6) = some r := by rw [if_neg (show ¬ (false = true) by decide)] at H; exact H
      clear H
      have H := H1
      clear H1
      have H' := Aside0.mk H
      clear H
      go_wp2
      repeat (go_quiet (fail); try go_wp2)
      go_roundg kj59
      case measure => have := HJ1.out; have := HK2.out; have := HJ25.out; have := HJ38.out; have := HJ47.out; have := HJ59.out; omega
      case rel => exact ⟨(wrap64 (x3_2 + 1)), (by first | rfl | (simp; done) | (simp [*]; done)), H', ⟨by have := HJ1.out; have := HK2.out; have := HJ25.out; have := HJ38.out; have := HJ47.out; have := HJ59.out; omega⟩, ⟨by (with_reducible repeat (first | refine blk_drewN ?_ _ | refine blk_drew ?_ | refine blk_alloc ?_ _)); exact BK180.out⟩, ⟨by repeat (first | (with_reducible first | exact HB.out | apply below_alloc | apply pw_below_drewN | apply below_drew1 | refine below_set ?_ GE180.out | refine below_set ?_ GE184.out) | exact HB.out)⟩⟩

end Go.Proofs.Ytjdebhkdbdbepaa.PExportTells
