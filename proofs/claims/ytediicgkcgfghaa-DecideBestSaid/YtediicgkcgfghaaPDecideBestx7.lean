-- Lean text by a program of this repo (wip/tools/printx.py), out of Lean's own print of the translation
import Derived.Test.YtediicgkcgfghaaPDecideBestx0
import Derived.Test.YtediicgkcgfghaaPDecideBestx5
import Derived.Test.YtediicgkcgfghaaPDecideBestx6
namespace Go.Proofs.Ytediicgkcgfghaa.PDecideBest
open Go.RowKit Go.Proofs.YtediicgkcgfghaaW.PrintWords Go.Proofs.YtediicgkcgfghaaW.PrintLast Go.Proofs.YtediicgkcgfghaaW.PrintMore
attribute [local go_sem] max2_int min2_int max_two min_two max_three min_three max_four min_four   -- for this text's walks alone
set_option linter.unusedVariables false
set_option linter.unusedSimpArgs false

/-! ### interregnumref11_Best: function 11 -/
mutual
def interregnumref11_Best.l0 : Nat → Int → List (S64) → List (S41) → List Int → Int → Option (Int × Bool)
  | 0, _, _, _, _, _ => none
  | k + 1, x0, x1, x2, x8, x9 => if x9 < (x2.length : Int) then (if 0 ≤ x9 then ((interregnumref05_HasAS.f k ((rd_T41 x2 x9).f2.f1) x0).bind fun t162 => (if t162 = true then (interregnumref11_Best.l0 k x0 x1 x2 x8 (wrap64 (x9 + 1))) else (if x8.length < 17592186044416 then (interregnumref11_Best.l0 k x0 x1 x2 (x8 ++ [x9]) (wrap64 (x9 + 1))) else (none)))) else (none)) else (interregnumref11_Best.l1 k x0 x1 x2 x8 0)
def interregnumref11_Best.l1 : Nat → Int → List (S64) → List (S41) → List Int → Int → Option (Int × Bool)
  | 0, _, _, _, _, _ => none
  | k + 1, x0, x1, x2, x8, x10 => if x10 < 9 then (interregnumref11_Best.j2 k x0 x1 x2 x8 x10 (decide ((x8.length : Int) > 0))) else (interregnumref11_Best.j2 k x0 x1 x2 x8 x10 false)
def interregnumref11_Best.j2 : Nat → Int → List (S64) → List (S41) → List Int → Int → Bool → Option (Int × Bool)
  | 0, _, _, _, _, _, _ => none
  | k + 1, x0, x1, x2, x8, x10, x41 => if x41 = true then (if 0 < (x8.length : Int) then ((interregnumref11_score.f k x10 x0 x1 x2 x8 (rd x8 0)).bind fun t167 => (interregnumref11_Best.l2 k x0 x1 x2 x8 x10 t167 0)) else (none)) else (if (x8.length : Int) = 0 then (some (0, false)) else (if 0 < (x8.length : Int) then (some (rd x8 0, true)) else (none)))
def interregnumref11_Best.l2 : Nat → Int → List (S64) → List (S41) → List Int → Int → Int → Int → Option (Int × Bool)
  | 0, _, _, _, _, _, _, _ => none
  | k + 1, x0, x1, x2, x8, x10, x12, x13 => if x13 < (x8.length : Int) then (if 0 ≤ x13 then ((interregnumref11_score.f k x10 x0 x1 x2 x8 (rd x8 x13)).bind fun t169 => (if t169 < x12 then (interregnumref11_Best.l2 k x0 x1 x2 x8 x10 t169 (wrap64 (x13 + 1))) else (interregnumref11_Best.l2 k x0 x1 x2 x8 x10 x12 (wrap64 (x13 + 1))))) else (none)) else (interregnumref11_Best.l3 k x0 x1 x2 x8 x10 ([] : List Int) x12 0)
def interregnumref11_Best.l3 : Nat → Int → List (S64) → List (S41) → List Int → Int → List Int → Int → Int → Option (Int × Bool)
  | 0, _, _, _, _, _, _, _, _ => none
  | k + 1, x0, x1, x2, x8, x10, x11, x12, x15 => if x15 < (x8.length : Int) then (if 0 ≤ x15 then ((interregnumref11_score.f k x10 x0 x1 x2 x8 (rd x8 x15)).bind fun t171 => (if t171 = x12 then (if x11.length < 17592186044416 then (interregnumref11_Best.l3 k x0 x1 x2 x8 x10 (x11 ++ [rd x8 x15]) x12 (wrap64 (x15 + 1))) else (none)) else (interregnumref11_Best.l3 k x0 x1 x2 x8 x10 x11 x12 (wrap64 (x15 + 1))))) else (none)) else (interregnumref11_Best.l1 k x0 x1 x2 x11 (wrap64 (x10 + 1)))
end
def interregnumref11_Best.f (k : Nat) (a0 : Int) (l1 : List (S64)) (l2 : List (S41)) : Option (Int × Bool) := interregnumref11_Best.l0 k a0 l1 l2 ([] : List Int) 0
theorem interregnumref11_Best.mono_l : ∀ k, (∀ y0 y1 y2 y3 y4, LeO (interregnumref11_Best.l0 k y0 y1 y2 y3 y4) (interregnumref11_Best.l0 (k + 1) y0 y1 y2 y3 y4)) ∧ (∀ y0 y1 y2 y3 y4, LeO (interregnumref11_Best.l1 k y0 y1 y2 y3 y4) (interregnumref11_Best.l1 (k + 1) y0 y1 y2 y3 y4)) ∧ (∀ y0 y1 y2 y3 y4 y5, LeO (interregnumref11_Best.j2 k y0 y1 y2 y3 y4 y5) (interregnumref11_Best.j2 (k + 1) y0 y1 y2 y3 y4 y5)) ∧ (∀ y0 y1 y2 y3 y4 y5 y6, LeO (interregnumref11_Best.l2 k y0 y1 y2 y3 y4 y5 y6) (interregnumref11_Best.l2 (k + 1) y0 y1 y2 y3 y4 y5 y6)) ∧ (∀ y0 y1 y2 y3 y4 y5 y6 y7, LeO (interregnumref11_Best.l3 k y0 y1 y2 y3 y4 y5 y6 y7) (interregnumref11_Best.l3 (k + 1) y0 y1 y2 y3 y4 y5 y6 y7))
  | 0 => ⟨fun _ _ _ _ _ r h => by simp [interregnumref11_Best.l0] at h, fun _ _ _ _ _ r h => by simp [interregnumref11_Best.l1] at h, fun _ _ _ _ _ _ r h => by simp [interregnumref11_Best.j2] at h, fun _ _ _ _ _ _ _ r h => by simp [interregnumref11_Best.l2] at h, fun _ _ _ _ _ _ _ _ r h => by simp [interregnumref11_Best.l3] at h⟩
  | k + 1 => by
    obtain ⟨ih0, ih1, ih2, ih3, ih4⟩ := interregnumref11_Best.mono_l k
    refine ⟨?_, ?_, ?_, ?_, ?_⟩
    · intro y0 y1 y2 y3 y4
      unfold interregnumref11_Best.l0
      repeat' first
      | (with_reducible exact ih0 _ _ _ _ _)
      | (with_reducible exact ih1 _ _ _ _ _)
      | (with_reducible exact ih2 _ _ _ _ _ _)
      | (with_reducible exact ih3 _ _ _ _ _ _ _)
      | (with_reducible exact ih4 _ _ _ _ _ _ _ _)
      | (with_reducible exact interregnumref05_HasAS.mono _ _ _)
      | (with_reducible exact interregnumref11_score.mono _ _ _ _ _ _ _)
      | (with_reducible exact LeO.refl _)
      | (with_reducible exact LeO.none _)
      | (with_reducible refine LeO.ite ?_ ?_)
      | (with_reducible refine LeO.bind ?_ (fun _ => ?_))
      | exact ih0 _ _ _ _ _
      | exact ih1 _ _ _ _ _
      | exact ih2 _ _ _ _ _ _
      | exact ih3 _ _ _ _ _ _ _
      | exact ih4 _ _ _ _ _ _ _ _
      | exact interregnumref05_HasAS.mono _ _ _
      | exact interregnumref11_score.mono _ _ _ _ _ _ _
      | exact LeO.none _
      | refine LeO.ite ?_ ?_
      | refine LeO.bind ?_ (fun _ => ?_)
    · intro y0 y1 y2 y3 y4
      unfold interregnumref11_Best.l1
      repeat' first
      | (with_reducible exact ih0 _ _ _ _ _)
      | (with_reducible exact ih1 _ _ _ _ _)
      | (with_reducible exact ih2 _ _ _ _ _ _)
      | (with_reducible exact ih3 _ _ _ _ _ _ _)
      | (with_reducible exact ih4 _ _ _ _ _ _ _ _)
      | (with_reducible exact interregnumref05_HasAS.mono _ _ _)
      | (with_reducible exact interregnumref11_score.mono _ _ _ _ _ _ _)
      | (with_reducible exact LeO.refl _)
      | (with_reducible exact LeO.none _)
      | (with_reducible refine LeO.ite ?_ ?_)
      | (with_reducible refine LeO.bind ?_ (fun _ => ?_))
      | exact ih0 _ _ _ _ _
      | exact ih1 _ _ _ _ _
      | exact ih2 _ _ _ _ _ _
      | exact ih3 _ _ _ _ _ _ _
      | exact ih4 _ _ _ _ _ _ _ _
      | exact interregnumref05_HasAS.mono _ _ _
      | exact interregnumref11_score.mono _ _ _ _ _ _ _
      | exact LeO.none _
      | refine LeO.ite ?_ ?_
      | refine LeO.bind ?_ (fun _ => ?_)
    · intro y0 y1 y2 y3 y4 y5
      unfold interregnumref11_Best.j2
      repeat' first
      | (with_reducible exact ih0 _ _ _ _ _)
      | (with_reducible exact ih1 _ _ _ _ _)
      | (with_reducible exact ih2 _ _ _ _ _ _)
      | (with_reducible exact ih3 _ _ _ _ _ _ _)
      | (with_reducible exact ih4 _ _ _ _ _ _ _ _)
      | (with_reducible exact interregnumref05_HasAS.mono _ _ _)
      | (with_reducible exact interregnumref11_score.mono _ _ _ _ _ _ _)
      | (with_reducible exact LeO.refl _)
      | (with_reducible exact LeO.none _)
      | (with_reducible refine LeO.ite ?_ ?_)
      | (with_reducible refine LeO.bind ?_ (fun _ => ?_))
      | exact ih0 _ _ _ _ _
      | exact ih1 _ _ _ _ _
      | exact ih2 _ _ _ _ _ _
      | exact ih3 _ _ _ _ _ _ _
      | exact ih4 _ _ _ _ _ _ _ _
      | exact interregnumref05_HasAS.mono _ _ _
      | exact interregnumref11_score.mono _ _ _ _ _ _ _
      | exact LeO.none _
      | refine LeO.ite ?_ ?_
      | refine LeO.bind ?_ (fun _ => ?_)
    · intro y0 y1 y2 y3 y4 y5 y6
      unfold interregnumref11_Best.l2
      repeat' first
      | (with_reducible exact ih0 _ _ _ _ _)
      | (with_reducible exact ih1 _ _ _ _ _)
      | (with_reducible exact ih2 _ _ _ _ _ _)
      | (with_reducible exact ih3 _ _ _ _ _ _ _)
      | (with_reducible exact ih4 _ _ _ _ _ _ _ _)
      | (with_reducible exact interregnumref05_HasAS.mono _ _ _)
      | (with_reducible exact interregnumref11_score.mono _ _ _ _ _ _ _)
      | (with_reducible exact LeO.refl _)
      | (with_reducible exact LeO.none _)
      | (with_reducible refine LeO.ite ?_ ?_)
      | (with_reducible refine LeO.bind ?_ (fun _ => ?_))
      | exact ih0 _ _ _ _ _
      | exact ih1 _ _ _ _ _
      | exact ih2 _ _ _ _ _ _
      | exact ih3 _ _ _ _ _ _ _
      | exact ih4 _ _ _ _ _ _ _ _
      | exact interregnumref05_HasAS.mono _ _ _
      | exact interregnumref11_score.mono _ _ _ _ _ _ _
      | exact LeO.none _
      | refine LeO.ite ?_ ?_
      | refine LeO.bind ?_ (fun _ => ?_)
    · intro y0 y1 y2 y3 y4 y5 y6 y7
      unfold interregnumref11_Best.l3
      repeat' first
      | (with_reducible exact ih0 _ _ _ _ _)
      | (with_reducible exact ih1 _ _ _ _ _)
      | (with_reducible exact ih2 _ _ _ _ _ _)
      | (with_reducible exact ih3 _ _ _ _ _ _ _)
      | (with_reducible exact ih4 _ _ _ _ _ _ _ _)
      | (with_reducible exact interregnumref05_HasAS.mono _ _ _)
      | (with_reducible exact interregnumref11_score.mono _ _ _ _ _ _ _)
      | (with_reducible exact LeO.refl _)
      | (with_reducible exact LeO.none _)
      | (with_reducible refine LeO.ite ?_ ?_)
      | (with_reducible refine LeO.bind ?_ (fun _ => ?_))
      | exact ih0 _ _ _ _ _
      | exact ih1 _ _ _ _ _
      | exact ih2 _ _ _ _ _ _
      | exact ih3 _ _ _ _ _ _ _
      | exact ih4 _ _ _ _ _ _ _ _
      | exact interregnumref05_HasAS.mono _ _ _
      | exact interregnumref11_score.mono _ _ _ _ _ _ _
      | exact LeO.none _
      | refine LeO.ite ?_ ?_
      | refine LeO.bind ?_ (fun _ => ?_)
theorem interregnumref11_Best.mono : ∀ a0 a1 a2 k, LeO (interregnumref11_Best.f k a0 a1 a2) (interregnumref11_Best.f (k + 1) a0 a1 a2) := by
  intro a0 a1 a2 k
  obtain ⟨ih0, ih1, ih2, ih3, ih4⟩ := interregnumref11_Best.mono_l k
  unfold interregnumref11_Best.f
  repeat' first
      | (with_reducible exact ih0 _ _ _ _ _)
      | (with_reducible exact ih1 _ _ _ _ _)
      | (with_reducible exact ih2 _ _ _ _ _ _)
      | (with_reducible exact ih3 _ _ _ _ _ _ _)
      | (with_reducible exact ih4 _ _ _ _ _ _ _ _)
      | (with_reducible exact interregnumref05_HasAS.mono _ _ _)
      | (with_reducible exact interregnumref11_score.mono _ _ _ _ _ _ _)
      | (with_reducible exact LeO.refl _)
      | (with_reducible exact LeO.none _)
      | (with_reducible refine LeO.ite ?_ ?_)
      | (with_reducible refine LeO.bind ?_ (fun _ => ?_))
      | exact ih0 _ _ _ _ _
      | exact ih1 _ _ _ _ _
      | exact ih2 _ _ _ _ _ _
      | exact ih3 _ _ _ _ _ _ _
      | exact ih4 _ _ _ _ _ _ _ _
      | exact interregnumref05_HasAS.mono _ _ _
      | exact interregnumref11_score.mono _ _ _ _ _ _ _
      | exact LeO.none _
      | refine LeO.ite ?_ ?_
      | refine LeO.bind ?_ (fun _ => ?_)
set_option maxHeartbeats 8000000 in
set_option maxRecDepth 100000 in
theorem interregnumref11_Best.calls (k : Nat) (a0 : Int) (A1 : Option Addr) (c1 : Nat) (l1 : List (S64)) (A2 : Option Addr) (c2 : Nat) (l2 : List (S41)) (r1 : Int) (r2 : Bool) (w : World) (hr1 : Kd.C k64 w A1 l1.length l1) (hc1 : l1.length ≤ c1) (hr2 : Kd.C k41 w A2 l2.length l2) (hc2 : l2.length ≤ c2) (h : interregnumref11_Best.f k a0 l1 l2 = some (r1, r2)) :
    Calls Try.prog 11 #[.int .i64 a0, .slice A1 l1.length c1, .slice A2 l2.length c2] w fun e w' => e = .returned (.tuple #[.int .i64 r1, .bool r2]) ∧ Below w.heap.size w w' := by
  have HR1 := Aside0.mk hr1
  have HC1 := Aside0.mk hc1
  clear hr1 hc1
  have HR2 := Aside0.mk hr2
  have HC2 := Aside0.mk hc2
  clear hr2 hc2
  have HB := Aside0.mk (Below.refl w.heap.size w)
  have H : (interregnumref11_Best.l0 k a0 l1 l2 ([] : List Int) 0) = some (r1, r2) := h
  clear h
  have H' := Aside0.mk H
  clear H
  go_enter Try.func11, Try.ntmps11
  go_wp2
  go_loopg [8, 9] k (fun kq v8 v9 w' => ∃ (x8_1 : List Int) (x9_1 : Int), v9 = .int .i64 x9_1 ∧ Aside0 (interregnumref11_Best.l0 kq a0 l1 l2 x8_1 x9_1 = some (r1, r2)) ∧ Aside0 (kq ≤ k) ∧ Aside0 (Kd.R (Kd.int .i64) 3 w' w.heap.size (fun _ => True) v8 x8_1) ∧ Aside0 (Below w.heap.size w w'))
  case atStart => exact ⟨(([] : List Int)), (0), (by first | rfl | (simp; done) | (simp [*]; done)), H', ⟨Nat.le_refl _⟩, ⟨by first | exact Kd.R_nil _ _ _ _ _ | exact Kd.N_nil _ _ _ _ _ | exact Kd.V_nil _ _ _ _ _ | exact Kd.Q_nil _ _ _ _ _ | exact Kd.S_nil _ _ _ _ _⟩, ⟨by repeat (first | (with_reducible first | exact HB.out | apply below_alloc | apply pw_below_drewN | apply below_drew1) | exact HB.out)⟩⟩
  case round =>
    clear H'
    try clear c1
    try clear c2
    try clear p2
    obtain ⟨x8_1, x9_1, rfl, HA, HK1, HO_8, HB⟩ := hrel
    cases gk with
    | zero => exact absurd HA.out (by simp [interregnumref11_Best.l0])
    | succ k1 =>
      have H := HA.out
      clear HA
      simp only [interregnumref11_Best.l0] at H
      by_cases c4 : x9_1 < (l2.length : Int)
      · rw [if_pos c4] at H
        have c4b0 : decide (x9_1 < (l2.length : Int)) = true := decide_eq_true c4
        clear c4
        by_cases c5 : 0 ≤ x9_1
        · rw [if_pos c5] at H
          have c5b0 : decide (0 ≤ x9_1) = true := decide_eq_true c5
          clear c5
          replace H := Option.bind_eq_some_iff.mp H
          obtain ⟨t162, A60, H⟩ := H
          replace H : (if t162 = true then (interregnumref11_Best.l0 k1 a0 l1 l2 x8_1 (wrap64 (x9_1 + 1))) else (if x8_1.length < 17592186044416 then (interregnumref11_Best.l0 k1 a0 l1 l2 (x8_1 ++ [x9_1]) (wrap64 (x9_1 + 1))) else (none))) = some (r1, r2) := H
          have A6 := Aside0.mk A60
          clear A60
          by_cases c7 : t162 = true
          · subst c7
            have H1 : (interregnumref11_Best.l0 k1 a0 l1 l2 x8_1 (wrap64 (x9_1 + 1))) = some (r1, r2) := by rw [if_pos rfl] at H; exact H
            clear H
            have H := H1
            clear H1
            have H' := Aside0.mk H
            clear H
            have p161 : 0 ≤ (x9_1 : Int) := of_decide_eq_true (by first | (with_reducible assumption) | assumption)
            have q161 : x9_1 < (l2.length : Int) := of_decide_eq_true (by first | (with_reducible assumption) | assumption)
            obtain ⟨ad161, A161_4, c161_4, A161_8, c161_8, A161_9, c161_9, e161, hx161_0, hx161_1, hx161_2, hx161_3, hx161_4, hx161_5, hx161_6, hx161_7, hx161_8, hx161_9, hx161_10, hl161_4, hi161_4, hl161_8, hi161_8, hl161_9, hi161_9⟩ := at_T41 HR2.out x9_1 p161 q161
            cases e161
            replace hx161_0 := (HB.out.cell (World.block_lt_of_cell? w _ hx161_0)).trans hx161_0
            replace hx161_1 := (HB.out.cell (World.block_lt_of_cell? w _ hx161_1)).trans hx161_1
            replace hx161_2 := (HB.out.cell (World.block_lt_of_cell? w _ hx161_2)).trans hx161_2
            replace hx161_3 := (HB.out.cell (World.block_lt_of_cell? w _ hx161_3)).trans hx161_3
            replace hx161_4 := (HB.out.cell (World.block_lt_of_cell? w _ hx161_4)).trans hx161_4
            replace hx161_5 := (HB.out.cell (World.block_lt_of_cell? w _ hx161_5)).trans hx161_5
            replace hx161_6 := (HB.out.cell (World.block_lt_of_cell? w _ hx161_6)).trans hx161_6
            replace hx161_7 := (HB.out.cell (World.block_lt_of_cell? w _ hx161_7)).trans hx161_7
            replace hx161_8 := (HB.out.cell (World.block_lt_of_cell? w _ hx161_8)).trans hx161_8
            replace hx161_9 := (HB.out.cell (World.block_lt_of_cell? w _ hx161_9)).trans hx161_9
            replace hx161_10 := (HB.out.cell (World.block_lt_of_cell? w _ hx161_10)).trans hx161_10
            have HR161_4 := Aside0.mk hi161_4
            have HC161_4 := Aside0.mk hl161_4
            clear hi161_4 hl161_4
            have HR161_8 := Aside0.mk hi161_8
            have HC161_8 := Aside0.mk hl161_8
            clear hi161_8 hl161_8
            have HR161_9 := Aside0.mk hi161_9
            have HC161_9 := Aside0.mk hl161_9
            clear hi161_9 hl161_9
            replace p161 := eq_true p161
            replace q161 := eq_true q161
            go_wp2_with (first | ((with_reducible refine gate_callee (f := 13) rfl ?_); refine goesL_ (some 29) rfl rfl Try.func13 (by kernel_rfl) rfl #[.slice A161_4 ((rd_T41 l2 x9_1).f2.f1).length c161_4, .int .i64 a0] rfl (by (try simp only [List.map_toArray, List.map_cons, List.map_nil]); first | done | rfl | (simp only [List.length_drop, List.length_take]; rfl)) ?_; (with_reducible refine (interregnumref05_HasAS.calls k1 _ _ ((rd_T41 l2 x9_1).f2.f1) a0 true _ ?side1 ?side2 A6.out).mono ?_); (case side1 => repeat (first | exact (Kd.C_below HR161_4.out HB.out) | (with_reducible refine Kd.C_alloc ?_ _) | (with_reducible refine Kd.C_drewN ?_ _) | (with_reducible refine Kd.C_drew ?_))); (case side2 => exact HC161_4.out); rintro e w' ⟨rfl, ⟨nd, rfl⟩⟩; refine ⟨_, rfl, ?_⟩))
            go_roundg k1
            case measure => have := HK1.out; omega
            case rel => exact ⟨(x8_1), (wrap64 (x9_1 + 1)), (by first | rfl | (simp; done) | (simp [*]; done)), H', ⟨by have := HK1.out; omega⟩, ⟨by (with_reducible repeat (first | apply Kd.R_alloc | apply Kd.R_drewN | apply Kd.R_drew)); exact HO_8.out⟩, ⟨by repeat (first | (with_reducible first | exact HB.out | apply below_alloc | apply pw_below_drewN | apply below_drew1) | exact HB.out)⟩⟩
          · replace c7 := Bool.eq_false_iff.mpr c7
            subst c7
            have H1 : (if x8_1.length < 17592186044416 then (interregnumref11_Best.l0 k1 a0 l1 l2 (x8_1 ++ [x9_1]) (wrap64 (x9_1 + 1))) else (none)) = some (r1, r2) := by rw [if_neg (show ¬ (false = true) by decide)] at H; exact H
            clear H
            have H := H1
            clear H1
            by_cases c8 : x8_1.length < 17592186044416
            · rw [if_pos c8] at H
              have LMc8 := Aside0.mk c8
              clear c8
              obtain ⟨y163, hy163⟩ : ∃ y_ : List Int, y_ = (x8_1 ++ [x9_1]) := ⟨_, rfl⟩
              replace H : (interregnumref11_Best.l0 k1 a0 l1 l2 y163 (wrap64 (x9_1 + 1))) = some (r1, r2) := by first | (rw [hy163]; with_reducible exact H) | (have H2_ := (Option.bind_some _ _).symm.trans H; rw [hy163]; with_reducible exact H2_) | (have H2_ := (Option.bind_some _ _).symm.trans H; with_reducible exact H2_) | with_reducible exact H | (rw [hy163]; exact H) | exact H
              have Ny163 := Aside0.mk hy163
              clear hy163
              have H' := Aside0.mk H
              clear H
              have p161 : 0 ≤ (x9_1 : Int) := of_decide_eq_true (by first | (with_reducible assumption) | assumption)
              have q161 : x9_1 < (l2.length : Int) := of_decide_eq_true (by first | (with_reducible assumption) | assumption)
              obtain ⟨ad161, A161_4, c161_4, A161_8, c161_8, A161_9, c161_9, e161, hx161_0, hx161_1, hx161_2, hx161_3, hx161_4, hx161_5, hx161_6, hx161_7, hx161_8, hx161_9, hx161_10, hl161_4, hi161_4, hl161_8, hi161_8, hl161_9, hi161_9⟩ := at_T41 HR2.out x9_1 p161 q161
              cases e161
              replace hx161_0 := (HB.out.cell (World.block_lt_of_cell? w _ hx161_0)).trans hx161_0
              replace hx161_1 := (HB.out.cell (World.block_lt_of_cell? w _ hx161_1)).trans hx161_1
              replace hx161_2 := (HB.out.cell (World.block_lt_of_cell? w _ hx161_2)).trans hx161_2
              replace hx161_3 := (HB.out.cell (World.block_lt_of_cell? w _ hx161_3)).trans hx161_3
              replace hx161_4 := (HB.out.cell (World.block_lt_of_cell? w _ hx161_4)).trans hx161_4
              replace hx161_5 := (HB.out.cell (World.block_lt_of_cell? w _ hx161_5)).trans hx161_5
              replace hx161_6 := (HB.out.cell (World.block_lt_of_cell? w _ hx161_6)).trans hx161_6
              replace hx161_7 := (HB.out.cell (World.block_lt_of_cell? w _ hx161_7)).trans hx161_7
              replace hx161_8 := (HB.out.cell (World.block_lt_of_cell? w _ hx161_8)).trans hx161_8
              replace hx161_9 := (HB.out.cell (World.block_lt_of_cell? w _ hx161_9)).trans hx161_9
              replace hx161_10 := (HB.out.cell (World.block_lt_of_cell? w _ hx161_10)).trans hx161_10
              have HR161_4 := Aside0.mk hi161_4
              have HC161_4 := Aside0.mk hl161_4
              clear hi161_4 hl161_4
              have HR161_8 := Aside0.mk hi161_8
              have HC161_8 := Aside0.mk hl161_8
              clear hi161_8 hl161_8
              have HR161_9 := Aside0.mk hi161_9
              have HC161_9 := Aside0.mk hl161_9
              clear hi161_9 hl161_9
              replace p161 := eq_true p161
              replace q161 := eq_true q161
              go_wp2_with (first | ((with_reducible refine gate_callee (f := 13) rfl ?_); refine goesL_ (some 29) rfl rfl Try.func13 (by kernel_rfl) rfl #[.slice A161_4 ((rd_T41 l2 x9_1).f2.f1).length c161_4, .int .i64 a0] rfl (by (try simp only [List.map_toArray, List.map_cons, List.map_nil]); first | done | rfl | (simp only [List.length_drop, List.length_take]; rfl)) ?_; (with_reducible refine (interregnumref05_HasAS.calls k1 _ _ ((rd_T41 l2 x9_1).f2.f1) a0 false _ ?side1 ?side2 A6.out).mono ?_); (case side1 => repeat (first | exact (Kd.C_below HR161_4.out HB.out) | (with_reducible refine Kd.C_alloc ?_ _) | (with_reducible refine Kd.C_drewN ?_ _) | (with_reducible refine Kd.C_drew ?_))); (case side2 => exact HC161_4.out); rintro e w' ⟨rfl, ⟨nd, rfl⟩⟩; refine ⟨_, rfl, ?_⟩) | ((with_reducible refine gate_builtin (b := .append) (xs := #[.tmp 31, .tmp 33]) rfl ?_); (try (refine gate_guard (by rfl) ?_; dsimp only)); at_builtin; refine Kd.R_append (Kd.int .i64) (w0 := w) w.heap.size rfl (.tmp 31) (.tmp 33) 45 3 (.int .i64 0) 8 rfl Try.underlying45 info3 rfl (by decide) (by omega) u8 x8_1 x9_1 [.int .i64 x9_1] (fun _ => True) (fun _ => False) rfl rfl ?aP (fun _ hk => hk.elim) ?aF ?aO ?aB ?aS ?aL ?_; (case aP => exact rfl); (case aB => exact (by repeat (first | (with_reducible first | exact HB.out | apply below_alloc | apply pw_below_drewN | apply below_drew1) | exact HB.out))); (case aF => exact (fun _ _ => trivial)); (case aO => exact (by (with_reducible repeat (first | apply Kd.R_alloc | apply Kd.R_drewN | apply Kd.R_drew)); exact HO_8.out)); (case aS => exact (below_size (by repeat (first | (with_reducible first | exact HB.out | apply below_alloc | apply pw_below_drewN | apply below_drew1) | exact HB.out)))); (case aL => have := LMc8.out; omega); intro v164 w9 ho hb hg hat; rw [← Ny163.out] at ho; have n0_ := Aside0.mk (hb); have n1_ := Aside0.mk (ho); clear HB; clear HO_8; have HB := n0_; have HO165 := n1_; clear n0_ n1_; clear ho hb hg hat))
              go_roundg k1
              case measure => have := HK1.out; omega
              case rel => exact ⟨(y163), (wrap64 (x9_1 + 1)), (by first | rfl | (simp; done) | (simp [*]; done)), H', ⟨by have := HK1.out; omega⟩, ⟨by (with_reducible repeat (first | apply Kd.R_alloc | apply Kd.R_drewN | apply Kd.R_drew)); exact HO165.out⟩, ⟨by repeat (first | (with_reducible first | exact HB.out | apply below_alloc | apply pw_below_drewN | apply below_drew1) | exact HB.out)⟩⟩
            · rw [if_neg c8] at H
              exact absurd H (by simp)
        · rw [if_neg c5] at H
          exact absurd H (by simp)
      · rw [if_neg c4] at H
        have c4b0 : decide (x9_1 < (l2.length : Int)) = false := decide_eq_false c4
        clear c4
        have H' := Aside0.mk H
        clear H
        go_wp2
        go_loopg [8, 10] k1 (fun kq v8 v10 w' => ∃ (x8_2 : List Int) (x10_2 : Int), v10 = .int .i64 x10_2 ∧ Aside0 (interregnumref11_Best.l1 kq a0 l1 l2 x8_2 x10_2 = some (r1, r2)) ∧ Aside0 (kq ≤ k1) ∧ Aside0 (Kd.R (Kd.int .i64) 3 w' w.heap.size (fun _ => True) v8 x8_2) ∧ Aside0 (Below w.heap.size w w'))
        case atStart => exact ⟨(x8_1), (0), (by first | rfl | (simp; done) | (simp [*]; done)), H', ⟨Nat.le_refl _⟩, ⟨by (with_reducible repeat (first | apply Kd.R_alloc | apply Kd.R_drewN | apply Kd.R_drew)); exact HO_8.out⟩, ⟨by repeat (first | (with_reducible first | exact HB.out | apply below_alloc | apply pw_below_drewN | apply below_drew1) | exact HB.out)⟩⟩
        case round =>
          clear H'
          try clear c1
          try clear p1
          try clear q1
          try clear hx1
          try clear c2
          try clear p2
          try clear c4
          try clear c4b0
          try clear c5
          try clear c5b0
          try clear p6
          try clear c7
          try clear c8
          try clear hx161_0
          try clear hx161_1
          try clear hx161_10
          try clear hx161_2
          try clear hx161_3
          try clear hx161_4
          try clear hx161_5
          try clear hx161_6
          try clear hx161_7
          try clear hx161_8
          try clear hx161_9
          try clear p161
          try clear p2
          try clear q161
          obtain ⟨x8_2, x10_2, rfl, HA, HK2, HO_8, HB⟩ := hrel
          cases gk with
          | zero => exact absurd HA.out (by simp [interregnumref11_Best.l1])
          | succ k2 =>
            have H := HA.out
            clear HA
            simp only [interregnumref11_Best.l1] at H
            have HC10 := Aside0.mk H
            clear H
            go_upto_region 8 with (fail)
            go_cut [41] (fun v41 wc => ∃ (kq : Nat) (x41_9 : Bool), v41 = .bool x41_9 ∧ Aside0 (interregnumref11_Best.j2 kq a0 l1 l2 x8_2 x10_2 x41_9 = some (r1, r2)) ∧ Aside0 (kq ≤ k2) ∧ Aside0 (Kd.R (Kd.int .i64) 3 wc w.heap.size (fun _ => True) u8 x8_2) ∧ Aside0 (Below w.heap.size w wc))
            case first =>
              have H := HC10.out
              clear HC10
              by_cases c11 : x10_2 < 9
              · rw [if_pos c11] at H
                have c11b0 : decide (x10_2 < 9) = true := decide_eq_true c11
                clear c11
                (first | rw [c11b0] | (simp only [i64_w, i32_w]; rw [c11b0]) | skip)
                have H' := Aside0.mk H
                clear H
                obtain ⟨Ao12, co12, eo12⟩ := Kd.R_slice HO_8.out
                subst eo12
                go_wp2
                go_meet
                case rel => exact ⟨_, (decide ((x8_2.length : Int) > 0)), (by first | rfl | (simp; done) | (simp [*]; done)), H', ⟨by have := HK1.out; have := HK2.out; first | omega | exact Nat.le_refl _⟩, ⟨by (with_reducible repeat (first | apply Kd.R_alloc | apply Kd.R_drewN | apply Kd.R_drew)); exact HO_8.out⟩, ⟨by repeat (first | (with_reducible first | exact HB.out | apply below_alloc | apply pw_below_drewN | apply below_drew1) | exact HB.out)⟩⟩
              · rw [if_neg c11] at H
                have c11b0 : decide (x10_2 < 9) = false := decide_eq_false c11
                clear c11
                (first | rw [c11b0] | (simp only [i64_w, i32_w]; rw [c11b0]) | skip)
                have H' := Aside0.mk H
                clear H
                go_wp2
                go_meet
                case rel => exact ⟨_, (false), (by first | rfl | (simp; done) | (simp [*]; done)), H', ⟨by have := HK1.out; have := HK2.out; first | omega | exact Nat.le_refl _⟩, ⟨by (with_reducible repeat (first | apply Kd.R_alloc | apply Kd.R_drewN | apply Kd.R_drew)); exact HO_8.out⟩, ⟨by repeat (first | (with_reducible first | exact HB.out | apply below_alloc | apply pw_below_drewN | apply below_drew1) | exact HB.out)⟩⟩
            case rest =>
              clear HC10
              try clear c1
              try clear p1
              try clear q1
              try clear hx1
              try clear c2
              try clear p2
              try clear c4
              try clear c4b0
              try clear c5
              try clear c5b0
              try clear p6
              try clear c7
              try clear c8
              try clear c11
              try clear c11b0
              try clear hx161_0
              try clear hx161_1
              try clear hx161_10
              try clear hx161_2
              try clear hx161_3
              try clear hx161_4
              try clear hx161_5
              try clear hx161_6
              try clear hx161_7
              try clear hx161_8
              try clear hx161_9
              try clear p1
              try clear p161
              try clear p2
              try clear p6
              try clear q1
              try clear q161
              obtain ⟨kq, x41_9, rfl, HA, HJ9, HO_8, HB⟩ := hcut
              cases kq with
              | zero => exact absurd HA.out (by simp [interregnumref11_Best.j2])
              | succ kj9 =>
                have H := HA.out
                clear HA
                simp only [interregnumref11_Best.j2] at H
                by_cases c13 : x41_9 = true
                · subst c13
                  have H1 : (if 0 < (x8_2.length : Int) then ((interregnumref11_score.f kj9 x10_2 a0 l1 l2 x8_2 (rd x8_2 0)).bind fun t167 => (interregnumref11_Best.l2 kj9 a0 l1 l2 x8_2 x10_2 t167 0)) else (none)) = some (r1, r2) := by rw [if_pos rfl] at H; exact H
                  clear H
                  have H := H1
                  clear H1
                  by_cases c14 : 0 < (x8_2.length : Int)
                  · rw [if_pos c14] at H
                    have c14b0 : decide (0 < (x8_2.length : Int)) = true := decide_eq_true c14
                    have c14b1 : decide (0 < x8_2.length) = true := decide_eq_true (by omega)
                    clear c14
                    replace H := Option.bind_eq_some_iff.mp H
                    obtain ⟨t167, A150, H⟩ := H
                    replace H : (interregnumref11_Best.l2 kj9 a0 l1 l2 x8_2 x10_2 t167 0) = some (r1, r2) := H
                    have A15 := Aside0.mk A150
                    clear A150
                    have H' := Aside0.mk H
                    clear H
                    obtain ⟨Ao16, co16, eo16⟩ := Kd.R_slice HO_8.out
                    subst eo16
                    have p166 : 0 ≤ (0 : Int) := (by omega)
                    have q166 : 0 < (x8_2.length : Int) := of_decide_eq_true (by first | (with_reducible assumption) | assumption)
                    obtain ⟨ad166, e166, hx166_0⟩ := Kd.at_int (Kd.R_reads' HO_8.out).2.2 0 p166 q166
                    cases e166
                    have qi166 : (0 < x8_2.length) = True := eq_true (by omega)
                    (try rw [show ((0 : Int)).toNat = 0 from rfl] at hx166_0)
                    (try rw [Addr.add_zero'] at hx166_0)
                    replace p166 := eq_true p166
                    replace q166 := eq_true q166
                    go_wp2_with (first | ((with_reducible refine gate_callee (f := 31) rfl ?_); refine goesL_ (some 52) rfl rfl Try.func31 (by kernel_rfl) rfl #[.int .i64 x10_2, .int .i64 a0, .slice A1 l1.length c1, .slice A2 l2.length c2, .slice (some ad166) x8_2.length co16, .int .i64 (rd x8_2 0)] rfl (by (try simp only [List.map_toArray, List.map_cons, List.map_nil]); first | done | rfl | (simp only [List.length_drop, List.length_take]; rfl)) ?_; (with_reducible refine (interregnumref11_score.calls kj9 x10_2 a0 _ _ l1 _ _ l2 _ _ x8_2 (rd x8_2 0) t167 _ ?side1 ?side2 ?side3 ?side4 ?side5 ?side6 A15.out).mono ?_); (case side1 => repeat (first | exact (Kd.C_below HR1.out HB.out) | (with_reducible refine Kd.C_alloc ?_ _) | (with_reducible refine Kd.C_drewN ?_ _) | (with_reducible refine Kd.C_drew ?_))); (case side2 => exact HC1.out); (case side3 => repeat (first | exact (Kd.C_below HR2.out HB.out) | (with_reducible refine Kd.C_alloc ?_ _) | (with_reducible refine Kd.C_drewN ?_ _) | (with_reducible refine Kd.C_drew ?_))); (case side4 => exact HC2.out); (case side5 => repeat (first | exact (Kd.R_reads' HO_8.out).2.2 | (with_reducible refine Kd.C_alloc ?_ _) | (with_reducible refine Kd.C_drewN ?_ _) | (with_reducible refine Kd.C_drew ?_))); (case side6 => exact (Kd.R_reads' HO_8.out).2.1); rintro e w17 ⟨rfl, hb⟩; refine ⟨_, rfl, ?_⟩; have n0_ := Aside0.mk (Kd.R_below (by (with_reducible repeat (first | apply Kd.R_alloc | apply Kd.R_drewN | apply Kd.R_drew)); exact HO_8.out) hb); have n1_ := Aside0.mk (below_step (by repeat (first | (with_reducible first | exact HB.out | apply below_alloc | apply pw_below_drewN | apply below_drew1) | exact HB.out)) hb); clear HO_8; clear HB; have HO_8 := n0_; have HB := n1_; clear n0_ n1_; (try clear hb); (try clear hb2); (try clear hk); (try clear hi)))
                    go_loopg [12, 13] kj9 (fun kq v12 v13 w' => ∃ (x12_4 : Int) (x13_4 : Int), v12 = .int .i64 x12_4 ∧ v13 = .int .i64 x13_4 ∧ Aside0 (interregnumref11_Best.l2 kq a0 l1 l2 x8_2 x10_2 x12_4 x13_4 = some (r1, r2)) ∧ Aside0 (kq ≤ kj9) ∧ Aside0 (Kd.R (Kd.int .i64) 3 w' w.heap.size (fun _ => True) (.slice (some ad166) x8_2.length co16) x8_2) ∧ Aside0 (Below w.heap.size w w'))
                    case atStart => exact ⟨(t167), (0), (by first | rfl | (simp; done) | (simp [*]; done)), (by first | rfl | (simp; done) | (simp [*]; done)), H', ⟨Nat.le_refl _⟩, ⟨by (with_reducible repeat (first | apply Kd.R_alloc | apply Kd.R_drewN | apply Kd.R_drew)); exact HO_8.out⟩, ⟨by repeat (first | (with_reducible first | exact HB.out | apply below_alloc | apply pw_below_drewN | apply below_drew1) | exact HB.out)⟩⟩
                    case round =>
                      clear H'
                      try clear c1
                      try clear p1
                      try clear q1
                      try clear hx1
                      try clear qi1
                      try clear c2
                      try clear p2
                      try clear c3
                      try clear c4
                      try clear c4b0
                      try clear c5
                      try clear c5b0
                      try clear p6
                      try clear c7
                      try clear c8
                      try clear c11
                      try clear c11b0
                      try clear c13
                      try clear c14
                      try clear c14b0
                      try clear c14b1
                      try clear c16
                      try clear p16
                      try clear q16
                      try clear hx16
                      try clear qi16
                      try clear hx161_0
                      try clear hx161_1
                      try clear hx161_10
                      try clear hx161_2
                      try clear hx161_3
                      try clear hx161_4
                      try clear hx161_5
                      try clear hx161_6
                      try clear hx161_7
                      try clear hx161_8
                      try clear hx161_9
                      try clear hx166_0
                      try clear p1
                      try clear p161
                      try clear p166
                      try clear p2
                      try clear p6
                      try clear q1
                      try clear q161
                      try clear q166
                      obtain ⟨x12_4, x13_4, rfl, rfl, HA, HK4, HO_8, HB⟩ := hrel
                      cases gk with
                      | zero => exact absurd HA.out (by simp [interregnumref11_Best.l2])
                      | succ k4 =>
                        have H := HA.out
                        clear HA
                        simp only [interregnumref11_Best.l2] at H
                        by_cases c18 : x13_4 < (x8_2.length : Int)
                        · rw [if_pos c18] at H
                          have c18b0 : decide (x13_4 < (x8_2.length : Int)) = true := decide_eq_true c18
                          clear c18
                          by_cases c19 : 0 ≤ x13_4
                          · rw [if_pos c19] at H
                            have c19b0 : decide (0 ≤ x13_4) = true := decide_eq_true c19
                            clear c19
                            replace H := Option.bind_eq_some_iff.mp H
                            obtain ⟨t169, A200, H⟩ := H
                            replace H : (if t169 < x12_4 then (interregnumref11_Best.l2 k4 a0 l1 l2 x8_2 x10_2 t169 (wrap64 (x13_4 + 1))) else (interregnumref11_Best.l2 k4 a0 l1 l2 x8_2 x10_2 x12_4 (wrap64 (x13_4 + 1)))) = some (r1, r2) := H
                            have A20 := Aside0.mk A200
                            clear A200
                            by_cases c21 : t169 < x12_4
                            · rw [if_pos c21] at H
                              have c21b0 : decide (t169 < x12_4) = true := decide_eq_true c21
                              clear c21
                              have H' := Aside0.mk H
                              clear H
                              have p168 : 0 ≤ (x13_4 : Int) := of_decide_eq_true (by first | (with_reducible assumption) | assumption)
                              have q168 : x13_4 < (x8_2.length : Int) := of_decide_eq_true (by first | (with_reducible assumption) | assumption)
                              obtain ⟨ad168, e168, hx168_0⟩ := Kd.at_int (Kd.R_reads' HO_8.out).2.2 x13_4 p168 q168
                              obtain rfl : ad166 = ad168 := (by injection e168)
                              replace p168 := eq_true p168
                              replace q168 := eq_true q168
                              go_wp2_with (first | ((with_reducible refine gate_callee (f := 31) rfl ?_); refine goesL_ (some 68) rfl rfl Try.func31 (by kernel_rfl) rfl #[.int .i64 x10_2, .int .i64 a0, .slice A1 l1.length c1, .slice A2 l2.length c2, .slice (some ad166) x8_2.length co16, .int .i64 (rd x8_2 x13_4)] rfl (by (try simp only [List.map_toArray, List.map_cons, List.map_nil]); first | done | rfl | (simp only [List.length_drop, List.length_take]; rfl)) ?_; (with_reducible refine (interregnumref11_score.calls k4 x10_2 a0 _ _ l1 _ _ l2 _ _ x8_2 (rd x8_2 x13_4) t169 _ ?side1 ?side2 ?side3 ?side4 ?side5 ?side6 A20.out).mono ?_); (case side1 => repeat (first | exact (Kd.C_below HR1.out HB.out) | (with_reducible refine Kd.C_alloc ?_ _) | (with_reducible refine Kd.C_drewN ?_ _) | (with_reducible refine Kd.C_drew ?_))); (case side2 => exact HC1.out); (case side3 => repeat (first | exact (Kd.C_below HR2.out HB.out) | (with_reducible refine Kd.C_alloc ?_ _) | (with_reducible refine Kd.C_drewN ?_ _) | (with_reducible refine Kd.C_drew ?_))); (case side4 => exact HC2.out); (case side5 => repeat (first | exact (Kd.R_reads' HO_8.out).2.2 | (with_reducible refine Kd.C_alloc ?_ _) | (with_reducible refine Kd.C_drewN ?_ _) | (with_reducible refine Kd.C_drew ?_))); (case side6 => exact (Kd.R_reads' HO_8.out).2.1); rintro e w22 ⟨rfl, hb⟩; refine ⟨_, rfl, ?_⟩; have n0_ := Aside0.mk (Kd.R_below (by (with_reducible repeat (first | apply Kd.R_alloc | apply Kd.R_drewN | apply Kd.R_drew)); exact HO_8.out) hb); have n1_ := Aside0.mk (below_step (by repeat (first | (with_reducible first | exact HB.out | apply below_alloc | apply pw_below_drewN | apply below_drew1) | exact HB.out)) hb); clear HO_8; clear HB; have HO_8 := n0_; have HB := n1_; clear n0_ n1_; (try clear hb); (try clear hb2); (try clear hk); (try clear hi)))
                              go_roundg k4
                              case measure => have := HK1.out; have := HK2.out; have := HJ9.out; have := HK4.out; omega
                              case rel => exact ⟨(t169), (wrap64 (x13_4 + 1)), (by first | rfl | (simp; done) | (simp [*]; done)), (by first | rfl | (simp; done) | (simp [*]; done)), H', ⟨by have := HK1.out; have := HK2.out; have := HJ9.out; have := HK4.out; omega⟩, ⟨by (with_reducible repeat (first | apply Kd.R_alloc | apply Kd.R_drewN | apply Kd.R_drew)); exact HO_8.out⟩, ⟨by repeat (first | (with_reducible first | exact HB.out | apply below_alloc | apply pw_below_drewN | apply below_drew1) | exact HB.out)⟩⟩
                            · rw [if_neg c21] at H
                              have c21b0 : decide (t169 < x12_4) = false := decide_eq_false c21
                              clear c21
                              have H' := Aside0.mk H
                              clear H
                              have p168 : 0 ≤ (x13_4 : Int) := of_decide_eq_true (by first | (with_reducible assumption) | assumption)
                              have q168 : x13_4 < (x8_2.length : Int) := of_decide_eq_true (by first | (with_reducible assumption) | assumption)
                              obtain ⟨ad168, e168, hx168_0⟩ := Kd.at_int (Kd.R_reads' HO_8.out).2.2 x13_4 p168 q168
                              obtain rfl : ad166 = ad168 := (by injection e168)
                              replace p168 := eq_true p168
                              replace q168 := eq_true q168
                              go_wp2_with (first | ((with_reducible refine gate_callee (f := 31) rfl ?_); refine goesL_ (some 68) rfl rfl Try.func31 (by kernel_rfl) rfl #[.int .i64 x10_2, .int .i64 a0, .slice A1 l1.length c1, .slice A2 l2.length c2, .slice (some ad166) x8_2.length co16, .int .i64 (rd x8_2 x13_4)] rfl (by (try simp only [List.map_toArray, List.map_cons, List.map_nil]); first | done | rfl | (simp only [List.length_drop, List.length_take]; rfl)) ?_; (with_reducible refine (interregnumref11_score.calls k4 x10_2 a0 _ _ l1 _ _ l2 _ _ x8_2 (rd x8_2 x13_4) t169 _ ?side1 ?side2 ?side3 ?side4 ?side5 ?side6 A20.out).mono ?_); (case side1 => repeat (first | exact (Kd.C_below HR1.out HB.out) | (with_reducible refine Kd.C_alloc ?_ _) | (with_reducible refine Kd.C_drewN ?_ _) | (with_reducible refine Kd.C_drew ?_))); (case side2 => exact HC1.out); (case side3 => repeat (first | exact (Kd.C_below HR2.out HB.out) | (with_reducible refine Kd.C_alloc ?_ _) | (with_reducible refine Kd.C_drewN ?_ _) | (with_reducible refine Kd.C_drew ?_))); (case side4 => exact HC2.out); (case side5 => repeat (first | exact (Kd.R_reads' HO_8.out).2.2 | (with_reducible refine Kd.C_alloc ?_ _) | (with_reducible refine Kd.C_drewN ?_ _) | (with_reducible refine Kd.C_drew ?_))); (case side6 => exact (Kd.R_reads' HO_8.out).2.1); rintro e w23 ⟨rfl, hb⟩; refine ⟨_, rfl, ?_⟩; have n0_ := Aside0.mk (Kd.R_below (by (with_reducible repeat (first | apply Kd.R_alloc | apply Kd.R_drewN | apply Kd.R_drew)); exact HO_8.out) hb); have n1_ := Aside0.mk (below_step (by repeat (first | (with_reducible first | exact HB.out | apply below_alloc | apply pw_below_drewN | apply below_drew1) | exact HB.out)) hb); clear HO_8; clear HB; have HO_8 := n0_; have HB := n1_; clear n0_ n1_; (try clear hb); (try clear hb2); (try clear hk); (try clear hi)))
                              go_roundg k4
                              case measure => have := HK1.out; have := HK2.out; have := HJ9.out; have := HK4.out; omega
                              case rel => exact ⟨(x12_4), (wrap64 (x13_4 + 1)), (by first | rfl | (simp; done) | (simp [*]; done)), (by first | rfl | (simp; done) | (simp [*]; done)), H', ⟨by have := HK1.out; have := HK2.out; have := HJ9.out; have := HK4.out; omega⟩, ⟨by (with_reducible repeat (first | apply Kd.R_alloc | apply Kd.R_drewN | apply Kd.R_drew)); exact HO_8.out⟩, ⟨by repeat (first | (with_reducible first | exact HB.out | apply below_alloc | apply pw_below_drewN | apply below_drew1) | exact HB.out)⟩⟩
                          · rw [if_neg c19] at H
                            exact absurd H (by simp)
                        · rw [if_neg c18] at H
                          have c18b0 : decide (x13_4 < (x8_2.length : Int)) = false := decide_eq_false c18
                          clear c18
                          have H' := Aside0.mk H
                          clear H
                          go_wp2
                          go_loopg [11, 15] k4 (fun kq v11 v15 w' => ∃ (x11_5 : List Int) (x15_5 : Int), v15 = .int .i64 x15_5 ∧ Aside0 (interregnumref11_Best.l3 kq a0 l1 l2 x8_2 x10_2 x11_5 x12_4 x15_5 = some (r1, r2)) ∧ Aside0 (kq ≤ k4) ∧ Aside0 (Kd.R (Kd.int .i64) 3 w' w.heap.size (fun k_ => some k_ ≠ (v11 : Value).ownBlock) (.slice (some ad166) x8_2.length co16) x8_2) ∧ Aside0 (Kd.R (Kd.int .i64) 3 w' w.heap.size (fun k_ => some k_ ≠ ((.slice (some ad166) x8_2.length co16) : Value).ownBlock) v11 x11_5) ∧ Aside0 (Below w.heap.size w w'))
                          case atStart => exact ⟨(([] : List Int)), (0), (by first | rfl | (simp; done) | (simp [*]; done)), H', ⟨Nat.le_refl _⟩, ⟨by (with_reducible repeat (first | apply Kd.R_alloc | apply Kd.R_drewN | apply Kd.R_drew)); exact Kd.R_mono HO_8.out (fun _ hk => (by simp [Value.ownBlock]))⟩, ⟨by first | exact Kd.R_nil _ _ _ _ _ | exact Kd.N_nil _ _ _ _ _ | exact Kd.V_nil _ _ _ _ _ | exact Kd.Q_nil _ _ _ _ _ | exact Kd.S_nil _ _ _ _ _⟩, ⟨by repeat (first | (with_reducible first | exact HB.out | apply below_alloc | apply pw_below_drewN | apply below_drew1) | exact HB.out)⟩⟩
                          case round =>
                            clear H'
                            try clear c1
                            try clear p1
                            try clear q1
                            try clear hx1
                            try clear qi1
                            try clear c2
                            try clear p2
                            try clear c3
                            try clear c4
                            try clear c4b0
                            try clear c5
                            try clear c5b0
                            try clear p6
                            try clear c7
                            try clear c8
                            try clear c11
                            try clear c11b0
                            try clear c13
                            try clear c14
                            try clear c14b0
                            try clear c14b1
                            try clear c16
                            try clear p16
                            try clear q16
                            try clear hx16
                            try clear qi16
                            try clear c18
                            try clear c18b0
                            try clear c19
                            try clear c19b0
                            try clear c21
                            try clear c21b0
                            try clear hx161_0
                            try clear hx161_1
                            try clear hx161_10
                            try clear hx161_2
                            try clear hx161_3
                            try clear hx161_4
                            try clear hx161_5
                            try clear hx161_6
                            try clear hx161_7
                            try clear hx161_8
                            try clear hx161_9
                            try clear hx166_0
                            try clear hx168_0
                            try clear p1
                            try clear p16
                            try clear p161
                            try clear p166
                            try clear p168
                            try clear p2
                            try clear p6
                            try clear q1
                            try clear q16
                            try clear q161
                            try clear q166
                            try clear q168
                            obtain ⟨x11_5, x15_5, rfl, HA, HK5, HO_8, HO_11, HB⟩ := hrel
                            cases gk with
                            | zero => exact absurd HA.out (by simp [interregnumref11_Best.l3])
                            | succ k5 =>
                              have H := HA.out
                              clear HA
                              simp only [interregnumref11_Best.l3] at H
                              by_cases c24 : x15_5 < (x8_2.length : Int)
                              · rw [if_pos c24] at H
                                have c24b0 : decide (x15_5 < (x8_2.length : Int)) = true := decide_eq_true c24
                                clear c24
                                by_cases c25 : 0 ≤ x15_5
                                · rw [if_pos c25] at H
                                  have c25b0 : decide (0 ≤ x15_5) = true := decide_eq_true c25
                                  clear c25
                                  replace H := Option.bind_eq_some_iff.mp H
                                  obtain ⟨t171, A260, H⟩ := H
                                  replace H : (if t171 = x12_4 then (if x11_5.length < 17592186044416 then (interregnumref11_Best.l3 k5 a0 l1 l2 x8_2 x10_2 (x11_5 ++ [rd x8_2 x15_5]) x12_4 (wrap64 (x15_5 + 1))) else (none)) else (interregnumref11_Best.l3 k5 a0 l1 l2 x8_2 x10_2 x11_5 x12_4 (wrap64 (x15_5 + 1)))) = some (r1, r2) := H
                                  have A26 := Aside0.mk A260
                                  clear A260
                                  by_cases c27 : t171 = x12_4
                                  · rw [if_pos c27] at H
                                    have c27b0 : (t171 == x12_4) = true := beq_iff_eq.mpr c27
                                    have c27b1 : (t171 != x12_4) = false := bne_eq_false_iff_eq.mpr c27
                                    clear c27
                                    by_cases c28 : x11_5.length < 17592186044416
                                    · rw [if_pos c28] at H
                                      have LMc28 := Aside0.mk c28
                                      clear c28
                                      obtain ⟨y173, hy173⟩ : ∃ y_ : List Int, y_ = (x11_5 ++ [rd x8_2 x15_5]) := ⟨_, rfl⟩
                                      replace H : (interregnumref11_Best.l3 k5 a0 l1 l2 x8_2 x10_2 y173 x12_4 (wrap64 (x15_5 + 1))) = some (r1, r2) := by first | (rw [hy173]; with_reducible exact H) | (have H2_ := (Option.bind_some _ _).symm.trans H; rw [hy173]; with_reducible exact H2_) | (have H2_ := (Option.bind_some _ _).symm.trans H; with_reducible exact H2_) | with_reducible exact H | (rw [hy173]; exact H) | exact H
                                      have Ny173 := Aside0.mk hy173
                                      clear hy173
                                      have H' := Aside0.mk H
                                      clear H
                                      have p170 : 0 ≤ (x15_5 : Int) := of_decide_eq_true (by first | (with_reducible assumption) | assumption)
                                      have q170 : x15_5 < (x8_2.length : Int) := of_decide_eq_true (by first | (with_reducible assumption) | assumption)
                                      obtain ⟨ad170, e170, hx170_0⟩ := Kd.at_int (Kd.R_reads' HO_8.out).2.2 x15_5 p170 q170
                                      obtain rfl : ad166 = ad170 := (by injection e170)
                                      replace p170 := eq_true p170
                                      replace q170 := eq_true q170
                                      go_wp2_with (first | ((with_reducible refine gate_callee (f := 31) rfl ?_); refine goesL_ (some 88) rfl rfl Try.func31 (by kernel_rfl) rfl #[.int .i64 x10_2, .int .i64 a0, .slice A1 l1.length c1, .slice A2 l2.length c2, .slice (some ad166) x8_2.length co16, .int .i64 (rd x8_2 x15_5)] rfl (by (try simp only [List.map_toArray, List.map_cons, List.map_nil]); first | done | rfl | (simp only [List.length_drop, List.length_take]; rfl)) ?_; (with_reducible refine (interregnumref11_score.calls k5 x10_2 a0 _ _ l1 _ _ l2 _ _ x8_2 (rd x8_2 x15_5) t171 _ ?side1 ?side2 ?side3 ?side4 ?side5 ?side6 A26.out).mono ?_); (case side1 => repeat (first | exact (Kd.C_below HR1.out HB.out) | (with_reducible refine Kd.C_alloc ?_ _) | (with_reducible refine Kd.C_drewN ?_ _) | (with_reducible refine Kd.C_drew ?_))); (case side2 => exact HC1.out); (case side3 => repeat (first | exact (Kd.C_below HR2.out HB.out) | (with_reducible refine Kd.C_alloc ?_ _) | (with_reducible refine Kd.C_drewN ?_ _) | (with_reducible refine Kd.C_drew ?_))); (case side4 => exact HC2.out); (case side5 => repeat (first | exact (Kd.R_reads' HO_8.out).2.2 | (with_reducible refine Kd.C_alloc ?_ _) | (with_reducible refine Kd.C_drewN ?_ _) | (with_reducible refine Kd.C_drew ?_))); (case side6 => exact (Kd.R_reads' HO_8.out).2.1); rintro e w29 ⟨rfl, hb⟩; refine ⟨_, rfl, ?_⟩; have n0_ := Aside0.mk (Kd.R_below (by (with_reducible repeat (first | apply Kd.R_alloc | apply Kd.R_drewN | apply Kd.R_drew)); exact HO_8.out) hb); have n1_ := Aside0.mk (Kd.R_below (by (with_reducible repeat (first | apply Kd.R_alloc | apply Kd.R_drewN | apply Kd.R_drew)); exact HO_11.out) hb); have n2_ := Aside0.mk (below_step (by repeat (first | (with_reducible first | exact HB.out | apply below_alloc | apply pw_below_drewN | apply below_drew1) | exact HB.out)) hb); clear HO_8; clear HO_11; clear HB; have HO_8 := n0_; have HO_11 := n1_; have HB := n2_; clear n0_ n1_ n2_; (try clear hb); (try clear hb2); (try clear hk); (try clear hi); have p172 : 0 ≤ (x15_5 : Int) := of_decide_eq_true (by first | (with_reducible assumption) | assumption); have q172 : x15_5 < (x8_2.length : Int) := of_decide_eq_true (by first | (with_reducible assumption) | assumption); obtain ⟨ad172, e172, hx172_0⟩ := Kd.at_int (Kd.R_reads' HO_8.out).2.2 x15_5 p172 q172; obtain rfl : ad166 = ad172 := (by injection e172); replace p172 := eq_true p172; replace q172 := eq_true q172) | ((with_reducible refine gate_builtin (b := .append) (xs := #[.tmp 91, .tmp 96]) rfl ?_); (try (refine gate_guard (by rfl) ?_; dsimp only)); at_builtin; refine Kd.R_append (Kd.int .i64) (w0 := w) w.heap.size rfl (.tmp 91) (.tmp 96) 45 3 (.int .i64 0) 8 rfl Try.underlying45 info3 rfl (by decide) (by omega) u11 x11_5 (rd x8_2 x15_5) [.int .i64 (rd x8_2 x15_5)] (fun k_ => some k_ ≠ (.slice (some ad166) x8_2.length co16 : Value).ownBlock) (fun _ => False) rfl rfl ?aP (fun _ hk => hk.elim) ?aF ?aO ?aB ?aS ?aL ?_; (case aP => exact rfl); (case aB => exact (by repeat (first | (with_reducible first | exact HB.out | apply below_alloc | apply pw_below_drewN | apply below_drew1) | exact HB.out))); (case aF => exact (fun k_ hk => Kd.fresh' (Kd.R_lt (by (with_reducible repeat (first | apply Kd.R_alloc | apply Kd.R_drewN | apply Kd.R_drew)); exact HO_8.out)) k_ hk)); (case aO => exact (by (with_reducible repeat (first | apply Kd.R_alloc | apply Kd.R_drewN | apply Kd.R_drew)); exact HO_11.out)); (case aS => exact (below_size (by repeat (first | (with_reducible first | exact HB.out | apply below_alloc | apply pw_below_drewN | apply below_drew1) | exact HB.out)))); (case aL => have := LMc28.out; omega); intro v174 w30 ho hb hg hat; rw [← Ny173.out] at ho; have n0_ := Aside0.mk (Kd.R_after (ok := (fun _ => True)) (by (with_reducible repeat (first | apply Kd.R_alloc | apply Kd.R_drewN | apply Kd.R_drew)); exact Kd.R_mono HO_8.out (fun _ hk => ⟨trivial, hk⟩)) hg hat); have n1_ := Aside0.mk (hb); have n2_ := Aside0.mk (ho); clear HO_8; clear HB; clear HO_11; have HO_8 := n0_; have HB := n1_; have HO175 := n2_; clear n0_ n1_ n2_; clear ho hb hg hat))
                                      go_roundg k5
                                      case measure => have := HK1.out; have := HK2.out; have := HJ9.out; have := HK4.out; have := HK5.out; omega
                                      case rel => exact ⟨(y173), (wrap64 (x15_5 + 1)), (by first | rfl | (simp; done) | (simp [*]; done)), H', ⟨by have := HK1.out; have := HK2.out; have := HJ9.out; have := HK4.out; have := HK5.out; omega⟩, ⟨by (with_reducible repeat (first | apply Kd.R_alloc | apply Kd.R_drewN | apply Kd.R_drew)); exact Kd.R_mono HO_8.out (fun _ hk => hk.2)⟩, ⟨by (with_reducible repeat (first | apply Kd.R_alloc | apply Kd.R_drewN | apply Kd.R_drew)); exact HO175.out⟩, ⟨by repeat (first | (with_reducible first | exact HB.out | apply below_alloc | apply pw_below_drewN | apply below_drew1) | exact HB.out)⟩⟩
                                    · rw [if_neg c28] at H
                                      exact absurd H (by simp)
                                  · rw [if_neg c27] at H
                                    have c27b0 : (t171 == x12_4) = false := beq_eq_false_iff_ne.mpr c27
                                    have c27b1 : (t171 != x12_4) = true := bne_iff_ne.mpr c27
                                    have H' := Aside0.mk H
                                    clear H
                                    have p170 : 0 ≤ (x15_5 : Int) := of_decide_eq_true (by first | (with_reducible assumption) | assumption)
                                    have q170 : x15_5 < (x8_2.length : Int) := of_decide_eq_true (by first | (with_reducible assumption) | assumption)
                                    obtain ⟨ad170, e170, hx170_0⟩ := Kd.at_int (Kd.R_reads' HO_8.out).2.2 x15_5 p170 q170
                                    obtain rfl : ad166 = ad170 := (by injection e170)
                                    replace p170 := eq_true p170
                                    replace q170 := eq_true q170
                                    go_wp2_with (first | ((with_reducible refine gate_callee (f := 31) rfl ?_); refine goesL_ (some 88) rfl rfl Try.func31 (by kernel_rfl) rfl #[.int .i64 x10_2, .int .i64 a0, .slice A1 l1.length c1, .slice A2 l2.length c2, .slice (some ad166) x8_2.length co16, .int .i64 (rd x8_2 x15_5)] rfl (by (try simp only [List.map_toArray, List.map_cons, List.map_nil]); first | done | rfl | (simp only [List.length_drop, List.length_take]; rfl)) ?_; (with_reducible refine (interregnumref11_score.calls k5 x10_2 a0 _ _ l1 _ _ l2 _ _ x8_2 (rd x8_2 x15_5) t171 _ ?side1 ?side2 ?side3 ?side4 ?side5 ?side6 A26.out).mono ?_); (case side1 => repeat (first | exact (Kd.C_below HR1.out HB.out) | (with_reducible refine Kd.C_alloc ?_ _) | (with_reducible refine Kd.C_drewN ?_ _) | (with_reducible refine Kd.C_drew ?_))); (case side2 => exact HC1.out); (case side3 => repeat (first | exact (Kd.C_below HR2.out HB.out) | (with_reducible refine Kd.C_alloc ?_ _) | (with_reducible refine Kd.C_drewN ?_ _) | (with_reducible refine Kd.C_drew ?_))); (case side4 => exact HC2.out); (case side5 => repeat (first | exact (Kd.R_reads' HO_8.out).2.2 | (with_reducible refine Kd.C_alloc ?_ _) | (with_reducible refine Kd.C_drewN ?_ _) | (with_reducible refine Kd.C_drew ?_))); (case side6 => exact (Kd.R_reads' HO_8.out).2.1); rintro e w31 ⟨rfl, hb⟩; refine ⟨_, rfl, ?_⟩; have n0_ := Aside0.mk (Kd.R_below (by (with_reducible repeat (first | apply Kd.R_alloc | apply Kd.R_drewN | apply Kd.R_drew)); exact HO_8.out) hb); have n1_ := Aside0.mk (Kd.R_below (by (with_reducible repeat (first | apply Kd.R_alloc | apply Kd.R_drewN | apply Kd.R_drew)); exact HO_11.out) hb); have n2_ := Aside0.mk (below_step (by repeat (first | (with_reducible first | exact HB.out | apply below_alloc | apply pw_below_drewN | apply below_drew1) | exact HB.out)) hb); clear HO_8; clear HO_11; clear HB; have HO_8 := n0_; have HO_11 := n1_; have HB := n2_; clear n0_ n1_ n2_; (try clear hb); (try clear hb2); (try clear hk); (try clear hi)))
                                    go_roundg k5
                                    case measure => have := HK1.out; have := HK2.out; have := HJ9.out; have := HK4.out; have := HK5.out; omega
                                    case rel => exact ⟨(x11_5), (wrap64 (x15_5 + 1)), (by first | rfl | (simp; done) | (simp [*]; done)), H', ⟨by have := HK1.out; have := HK2.out; have := HJ9.out; have := HK4.out; have := HK5.out; omega⟩, ⟨by (with_reducible repeat (first | apply Kd.R_alloc | apply Kd.R_drewN | apply Kd.R_drew)); exact HO_8.out⟩, ⟨by (with_reducible repeat (first | apply Kd.R_alloc | apply Kd.R_drewN | apply Kd.R_drew)); exact HO_11.out⟩, ⟨by repeat (first | (with_reducible first | exact HB.out | apply below_alloc | apply pw_below_drewN | apply below_drew1) | exact HB.out)⟩⟩
                                · rw [if_neg c25] at H
                                  exact absurd H (by simp)
                              · rw [if_neg c24] at H
                                have c24b0 : decide (x15_5 < (x8_2.length : Int)) = false := decide_eq_false c24
                                clear c24
                                have H' := Aside0.mk H
                                clear H
                                go_wp2
                                go_roundg k5
                                case measure => have := HK1.out; have := HK2.out; have := HJ9.out; have := HK4.out; have := HK5.out; omega
                                case rel => exact ⟨(x11_5), (wrap64 (x10_2 + 1)), (by first | rfl | (simp; done) | (simp [*]; done)), H', ⟨by have := HK1.out; have := HK2.out; have := HJ9.out; have := HK4.out; have := HK5.out; omega⟩, ⟨by (with_reducible repeat (first | apply Kd.R_alloc | apply Kd.R_drewN | apply Kd.R_drew)); exact Kd.R_mono HO_11.out (fun _ hk => trivial)⟩, ⟨by repeat (first | (with_reducible first | exact HB.out | apply below_alloc | apply pw_below_drewN | apply below_drew1) | exact HB.out)⟩⟩
                  · rw [if_neg c14] at H
                    exact absurd H (by simp)
                · replace c13 := Bool.eq_false_iff.mpr c13
                  subst c13
                  have H1 : (if (x8_2.length : Int) = 0 then (some (0, false)) else (if 0 < (x8_2.length : Int) then (some (rd x8_2 0, true)) else (none))) = some (r1, r2) := by rw [if_neg (show ¬ (false = true) by decide)] at H; exact H
                  clear H
                  have H := H1
                  clear H1
                  by_cases c32 : (x8_2.length : Int) = 0
                  · rw [if_pos c32] at H
                    have c32b0 : ((x8_2.length : Int) == 0) = true := beq_iff_eq.mpr c32
                    have c32b1 : ((x8_2.length : Int) != 0) = false := bne_eq_false_iff_eq.mpr c32
                    clear c32
                    simp only [Option.some.injEq, Prod.mk.injEq] at H
                    obtain ⟨rfl, rfl⟩ := H
                    obtain ⟨Ao33, co33, eo33⟩ := Kd.R_slice HO_8.out
                    subst eo33
                    go_wp2
                    go_ret2
                    exact ⟨by first | rfl | (simp [errW_none, errW_some] <;> rfl) | (simp [*, errW_none, errW_some] <;> rfl), by repeat (first | (with_reducible first | exact HB.out | apply below_alloc | apply pw_below_drewN | apply below_drew1) | exact HB.out)⟩
                  · rw [if_neg c32] at H
                    have c32b0 : ((x8_2.length : Int) == 0) = false := beq_eq_false_iff_ne.mpr c32
                    have c32b1 : ((x8_2.length : Int) != 0) = true := bne_iff_ne.mpr c32
                    have c32b2 : ¬ (x8_2 = []) := fun h_ => c32 (by rw [h_]; rfl)
                    by_cases c34 : 0 < (x8_2.length : Int)
                    · rw [if_pos c34] at H
                      have c34b0 : decide (0 < (x8_2.length : Int)) = true := decide_eq_true c34
                      have c34b1 : decide (0 < x8_2.length) = true := decide_eq_true (by omega)
                      clear c34
                      simp only [Option.some.injEq, Prod.mk.injEq] at H
                      obtain ⟨rfl, rfl⟩ := H
                      obtain ⟨Ao35, co35, eo35⟩ := Kd.R_slice HO_8.out
                      subst eo35
                      have p176 : 0 ≤ (0 : Int) := (by omega)
                      have q176 : 0 < (x8_2.length : Int) := of_decide_eq_true (by first | (with_reducible assumption) | assumption)
                      obtain ⟨ad176, e176, hx176_0⟩ := Kd.at_int (Kd.R_reads' HO_8.out).2.2 0 p176 q176
                      cases e176
                      have qi176 : (0 < x8_2.length) = True := eq_true (by omega)
                      (try rw [show ((0 : Int)).toNat = 0 from rfl] at hx176_0)
                      (try rw [Addr.add_zero'] at hx176_0)
                      replace p176 := eq_true p176
                      replace q176 := eq_true q176
                      go_wp2
                      go_ret2
                      exact ⟨by first | rfl | (simp [errW_none, errW_some] <;> rfl) | (simp [*, errW_none, errW_some] <;> rfl), by repeat (first | (with_reducible first | exact HB.out | apply below_alloc | apply pw_below_drewN | apply below_drew1) | exact HB.out)⟩
                    · rw [if_neg c34] at H
                      exact absurd H (by simp)

end Go.Proofs.Ytediicgkcgfghaa.PDecideBest
