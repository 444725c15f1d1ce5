-- Lean text by a program of this repo (wip/tools/printx.py), out of Lean's own print of the translation
import Derived.Test.YtediicgkcgfghaaPDecideOrderx0
import Derived.Test.YtediicgkcgfghaaPDecideOrderx2
import Derived.Test.YtediicgkcgfghaaPDecideOrderx4
import Derived.Test.YtediicgkcgfghaaPDecideOrderx5
namespace Go.Proofs.Ytediicgkcgfghaa.PDecideOrder
open Go.RowKit Go.Proofs.YtediicgkcgfghaaW.PrintWords Go.Proofs.YtediicgkcgfghaaW.PrintLast Go.Proofs.YtediicgkcgfghaaW.PrintMore
attribute [local go_sem] max2_int min2_int max_two min_two max_three min_three max_four min_four   -- for this text's walks alone
set_option linter.unusedVariables false
set_option linter.unusedSimpArgs false

/-! ### interregnumlaw15_DecideOrder: function 4 -/
mutual
def interregnumlaw15_DecideOrder.j0 : Nat → Int → List (S49) → List (S41) → Int → Bool → Option (Bool)
  | 0, _, _, _, _, _ => none
  | k + 1, x0, x1, x2, x3, x28 => if x28 = true then ((interregnumlaw15_answers.f).bind fun t129 => (some t129)) else (interregnumlaw15_DecideOrder.l0 k x0 x1 x2 x3 0)
def interregnumlaw15_DecideOrder.l0 : Nat → Int → List (S49) → List (S41) → Int → Int → Option (Bool)
  | 0, _, _, _, _, _ => none
  | k + 1, x0, x1, x2, x3, x9 => if x9 < (x2.length : Int) then (interregnumlaw15_DecideOrder.l1 k x0 x1 x2 x3 x9 0) else (if (x2.length : Int) = 0 then (none) else ((decide_Best.f x0 x1 x2).bind fun bt133 => ((some (([] : List (S41)) : List (S41))).bind fun y135 => (if 0 ≤ (Int.tmod (wrap64 (x3)) (x2.length : Int)) then (if (Int.tmod (wrap64 (x3)) (x2.length : Int)) ≤ (x2.length : Int) then ((some (x2.drop ((Int.tmod (wrap64 (x3)) (x2.length : Int)) : Int).toNat : List (S41))).bind fun y138 => (if y135.length + y138.length < 1034834473200 then ((some (y135 ++ y138 : List (S41))).bind fun y142 => ((some (x2.take ((Int.tmod (wrap64 (x3)) (x2.length : Int)) : Int).toNat : List (S41))).bind fun y145 => (if y142.length + y145.length < 1034834473200 then ((decide_Best.f x0 x1 (y142 ++ y145)).bind fun bt152 => ((interregnumlaw15_answers.f).bind fun t154 => (if t154 = true then (if (bt133.2 == bt152.2) = true then (if bt133.2 = true then (some (bt133.1 == (Int.tmod (wrap64 (bt152.1 + (Int.tmod (wrap64 (x3)) (x2.length : Int)))) (x2.length : Int)))) else (some true)) else (some false)) else (some false)))) else (none)))) else (none))) else (none)) else (none)))))
def interregnumlaw15_DecideOrder.l1 : Nat → Int → List (S49) → List (S41) → Int → Int → Int → Option (Bool)
  | 0, _, _, _, _, _, _ => none
  | k + 1, x0, x1, x2, x3, x9, x10 => if x10 < x9 then (if 0 ≤ x9 then (if x9 < (x2.length : Int) then (if 0 ≤ x10 then (if x10 < (x2.length : Int) then (if ((rd_T41 x2 x9).f1) = ((rd_T41 x2 x10).f1) then ((interregnumlaw15_answers.f).bind fun t132 => (some t132)) else (interregnumlaw15_DecideOrder.l1 k x0 x1 x2 x3 x9 (wrap64 (x10 + 1)))) else (none)) else (none)) else (none)) else (none)) else (interregnumlaw15_DecideOrder.l0 k x0 x1 x2 x3 (wrap64 (x9 + 1)))
end
def interregnumlaw15_DecideOrder.f (k : Nat) (a0 : Int) (l1 : List (S49)) (l2 : List (S41)) (a3 : Int) : Option (Bool) := (interregnumlaw15_small.f k l2).bind fun t128 => (if t128 = true then (if (l2.length : Int) = 0 then (interregnumlaw15_DecideOrder.j0 k a0 l1 l2 a3 true) else (interregnumlaw15_DecideOrder.j0 k a0 l1 l2 a3 (decide ((l1.length : Int) > 20)))) else (interregnumlaw15_DecideOrder.j0 k a0 l1 l2 a3 true))
theorem interregnumlaw15_DecideOrder.mono_l : ∀ k, (∀ y0 y1 y2 y3 y4, LeO (interregnumlaw15_DecideOrder.j0 k y0 y1 y2 y3 y4) (interregnumlaw15_DecideOrder.j0 (k + 1) y0 y1 y2 y3 y4)) ∧ (∀ y0 y1 y2 y3 y4, LeO (interregnumlaw15_DecideOrder.l0 k y0 y1 y2 y3 y4) (interregnumlaw15_DecideOrder.l0 (k + 1) y0 y1 y2 y3 y4)) ∧ (∀ y0 y1 y2 y3 y4 y5, LeO (interregnumlaw15_DecideOrder.l1 k y0 y1 y2 y3 y4 y5) (interregnumlaw15_DecideOrder.l1 (k + 1) y0 y1 y2 y3 y4 y5))
  | 0 => ⟨fun _ _ _ _ _ r h => by simp [interregnumlaw15_DecideOrder.j0] at h, fun _ _ _ _ _ r h => by simp [interregnumlaw15_DecideOrder.l0] at h, fun _ _ _ _ _ _ r h => by simp [interregnumlaw15_DecideOrder.l1] at h⟩
  | k + 1 => by
    obtain ⟨ih0, ih1, ih2⟩ := interregnumlaw15_DecideOrder.mono_l k
    refine ⟨?_, ?_, ?_⟩
    · intro y0 y1 y2 y3 y4
      unfold interregnumlaw15_DecideOrder.j0
      repeat' first
      | (with_reducible exact ih0 _ _ _ _ _)
      | (with_reducible exact ih1 _ _ _ _ _)
      | (with_reducible exact ih2 _ _ _ _ _ _)
      | (with_reducible exact interregnumlaw15_small.mono _ _)
      | (with_reducible exact LeO.refl _)
      | (with_reducible exact LeO.none _)
      | (with_reducible refine LeO.ite ?_ ?_)
      | (with_reducible refine LeO.bind ?_ (fun _ => ?_))
      | exact ih0 _ _ _ _ _
      | exact ih1 _ _ _ _ _
      | exact ih2 _ _ _ _ _ _
      | exact interregnumlaw15_small.mono _ _
      | exact LeO.none _
      | refine LeO.ite ?_ ?_
      | refine LeO.bind ?_ (fun _ => ?_)
    · intro y0 y1 y2 y3 y4
      unfold interregnumlaw15_DecideOrder.l0
      repeat' first
      | (with_reducible exact ih0 _ _ _ _ _)
      | (with_reducible exact ih1 _ _ _ _ _)
      | (with_reducible exact ih2 _ _ _ _ _ _)
      | (with_reducible exact interregnumlaw15_small.mono _ _)
      | (with_reducible exact LeO.refl _)
      | (with_reducible exact LeO.none _)
      | (with_reducible refine LeO.ite ?_ ?_)
      | (with_reducible refine LeO.bind ?_ (fun _ => ?_))
      | exact ih0 _ _ _ _ _
      | exact ih1 _ _ _ _ _
      | exact ih2 _ _ _ _ _ _
      | exact interregnumlaw15_small.mono _ _
      | exact LeO.none _
      | refine LeO.ite ?_ ?_
      | refine LeO.bind ?_ (fun _ => ?_)
    · intro y0 y1 y2 y3 y4 y5
      unfold interregnumlaw15_DecideOrder.l1
      repeat' first
      | (with_reducible exact ih0 _ _ _ _ _)
      | (with_reducible exact ih1 _ _ _ _ _)
      | (with_reducible exact ih2 _ _ _ _ _ _)
      | (with_reducible exact interregnumlaw15_small.mono _ _)
      | (with_reducible exact LeO.refl _)
      | (with_reducible exact LeO.none _)
      | (with_reducible refine LeO.ite ?_ ?_)
      | (with_reducible refine LeO.bind ?_ (fun _ => ?_))
      | exact ih0 _ _ _ _ _
      | exact ih1 _ _ _ _ _
      | exact ih2 _ _ _ _ _ _
      | exact interregnumlaw15_small.mono _ _
      | exact LeO.none _
      | refine LeO.ite ?_ ?_
      | refine LeO.bind ?_ (fun _ => ?_)
theorem interregnumlaw15_DecideOrder.mono : ∀ a0 a1 a2 a3 k, LeO (interregnumlaw15_DecideOrder.f k a0 a1 a2 a3) (interregnumlaw15_DecideOrder.f (k + 1) a0 a1 a2 a3) := by
  intro a0 a1 a2 a3 k
  obtain ⟨ih0, ih1, ih2⟩ := interregnumlaw15_DecideOrder.mono_l k
  unfold interregnumlaw15_DecideOrder.f
  repeat' first
      | (with_reducible exact ih0 _ _ _ _ _)
      | (with_reducible exact ih1 _ _ _ _ _)
      | (with_reducible exact ih2 _ _ _ _ _ _)
      | (with_reducible exact interregnumlaw15_small.mono _ _)
      | (with_reducible exact LeO.refl _)
      | (with_reducible exact LeO.none _)
      | (with_reducible refine LeO.ite ?_ ?_)
      | (with_reducible refine LeO.bind ?_ (fun _ => ?_))
      | exact ih0 _ _ _ _ _
      | exact ih1 _ _ _ _ _
      | exact ih2 _ _ _ _ _ _
      | exact interregnumlaw15_small.mono _ _
      | exact LeO.none _
      | refine LeO.ite ?_ ?_
      | refine LeO.bind ?_ (fun _ => ?_)
def interregnumlaw15_DecideOrder.T9 : Bool × List (List Nat × List Nat) := (true, [([], []), ([], []), ([0, 1], [0, 1]), ([2], [2]), ([3], [3]), ([], []), ([], []), ([5, 6], [5, 6]), ([7], [7]), ([8], [8]), ([4, 9], [4, 9])])
def interregnumlaw15_DecideOrder.B9 : List Nat := [0, 0, 3, 7, 15, 0, 0, 96, 224, 480, 1023]
theorem interregnumlaw15_DecideOrder.tab9 : rtab .any (opsOf Try.f4 9) = interregnumlaw15_DecideOrder.T9 := by kernel_rfl
theorem interregnumlaw15_DecideOrder.bits9 : waitsOk interregnumlaw15_DecideOrder.T9.2 interregnumlaw15_DecideOrder.B9 = true := by kernel_rfl
def interregnumlaw15_DecideOrder.T13 : Bool × List (List Nat × List Nat) := (true, [([], []), ([], []), ([], []), ([], []), ([], []), ([3, 4], [3, 4]), ([2, 5], [2, 5]), ([], []), ([], []), ([7, 8], [7, 8]), ([6, 9, 6], [6, 9]), ([0, 1, 10, 10], [0, 1, 10]), ([11], [11]), ([12], [12]), ([12], [12]), ([13, 11, 0, 1, 2, 3, 4, 5, 6, 7, 8, 9, 10, 11, 12, 13], [13]), ([14, 15, 0, 1, 2, 3, 4, 5, 6, 7, 8, 9, 10, 11, 12, 13, 14, 15], [14])])
def interregnumlaw15_DecideOrder.B13 : List Nat := [0, 0, 0, 0, 0, 24, 60, 0, 0, 384, 1020, 2047, 4095, 8191, 8191, 16383, 65535]
theorem interregnumlaw15_DecideOrder.tab13 : rtab .any (opsOf Try.f4 13) = interregnumlaw15_DecideOrder.T13 := by kernel_rfl
theorem interregnumlaw15_DecideOrder.bits13 : waitsOk interregnumlaw15_DecideOrder.T13.2 interregnumlaw15_DecideOrder.B13 = true := by kernel_rfl
set_option maxHeartbeats 8000000 in
set_option maxRecDepth 100000 in
theorem interregnumlaw15_DecideOrder.calls (k : Nat) (a0 : Int) (A1 : Option Addr) (c1 : Nat) (l1 : List (S49)) (A2 : Option Addr) (c2 : Nat) (l2 : List (S41)) (a3 : Int) (r : Bool) (w : World) (hr1 : Kd.C k49 w A1 l1.length l1) (hc1 : l1.length ≤ c1) (hr2 : Kd.C k41 w A2 l2.length l2) (hc2 : l2.length ≤ c2) (h : interregnumlaw15_DecideOrder.f k a0 l1 l2 a3 = some r) :
    Calls Try.prog 4 #[.int .i64 a0, .slice A1 l1.length c1, .slice A2 l2.length c2, .int .u8 a3] w fun e w' => e = .returned (.bool r) ∧ Below w.heap.size w w' := by
 have HR1 := Aside0.mk hr1
 have HC1 := Aside0.mk hc1
 clear hr1 hc1
 have HR2 := Aside0.mk hr2
 have HC2 := Aside0.mk hc2
 clear hr2 hc2
 have HB := Aside0.mk (Below.refl w.heap.size w)
 have H : ((interregnumlaw15_small.f k l2).bind fun t128 => (if t128 = true then (if (l2.length : Int) = 0 then (interregnumlaw15_DecideOrder.j0 k a0 l1 l2 a3 true) else (interregnumlaw15_DecideOrder.j0 k a0 l1 l2 a3 (decide ((l1.length : Int) > 20)))) else (interregnumlaw15_DecideOrder.j0 k a0 l1 l2 a3 true))) = some r := h
 clear h
 have HC5 := Aside0.mk H
 clear H
 go_enter Try.func4, Try.ntmps4
 go_upto_region 1 with (fail)
 go_cut [28] (fun v28 wc => ∃ (kq : Nat) (x28_4 : Bool), v28 = .bool x28_4 ∧ Aside0 (interregnumlaw15_DecideOrder.j0 kq a0 l1 l2 a3 x28_4 = some r) ∧ Aside0 (kq ≤ k) ∧ Aside0 (Below w.heap.size w wc))
 case first =>
  have H := HC5.out
  clear HC5
  replace H := Option.bind_eq_some_iff.mp H
  obtain ⟨t128, A60, H⟩ := H
  replace H : (if t128 = true then (if (l2.length : Int) = 0 then (interregnumlaw15_DecideOrder.j0 k a0 l1 l2 a3 true) else (interregnumlaw15_DecideOrder.j0 k a0 l1 l2 a3 (decide ((l1.length : Int) > 20)))) else (interregnumlaw15_DecideOrder.j0 k a0 l1 l2 a3 true)) = some r := H
  have A6 := Aside0.mk A60
  clear A60
  by_cases c7 : t128 = true
  rotate_left
  ·replace c7 := Bool.eq_false_iff.mpr c7
   subst c7
   have H1 : (interregnumlaw15_DecideOrder.j0 k a0 l1 l2 a3 true) = some r := by rw [if_neg (show ¬ (false = true) by decide)] at H; exact H
   clear H
   have H := H1
   clear H1
   have H' := Aside0.mk H
   clear H
   go_wp2_with (first | ((with_reducible refine gate_callee (f := 8) rfl ?_); refine goesL_ (some 17) rfl rfl Try.func8 (by kernel_rfl) rfl #[.slice A2 l2.length c2] rfl (by (try simp only [List.map_toArray, List.map_cons, List.map_nil]); first | done | rfl | (simp only [List.length_drop, List.length_take]; rfl)) ?_; (with_reducible refine (interregnumlaw15_small.calls k _ _ l2 false _ ?side1 ?side2 A6.out).mono ?_); (case side1 => repeat (first | exact (Kd.C_below HR2.out HB.out) | (with_reducible refine Kd.C_alloc ?_ _) | (with_reducible refine Kd.C_drewN ?_ _) | (with_reducible refine Kd.C_drew ?_))); (case side2 => exact HC2.out); rintro e w11 ⟨rfl, hb⟩; refine ⟨_, rfl, ?_⟩; have n0_ := Aside0.mk (below_step (by repeat (first | (with_reducible first | exact HB.out | apply below_alloc | apply pw_below_drewN | apply below_drew1) | exact HB.out)) hb); clear HB; have HB := n0_; clear n0_; (try clear hb); (try clear hb2); (try clear hk); (try clear hi)))
   go_meet
   case rel => exact ⟨_, (true), (by first | rfl | (simp; done) | (simp [*]; done)), H', ⟨by first | omega | exact Nat.le_refl _⟩, ⟨by repeat (first | (with_reducible first | exact HB.out | apply below_alloc | apply pw_below_drewN | apply below_drew1) | exact HB.out)⟩⟩
  subst c7
  have H1 : (if (l2.length : Int) = 0 then (interregnumlaw15_DecideOrder.j0 k a0 l1 l2 a3 true) else (interregnumlaw15_DecideOrder.j0 k a0 l1 l2 a3 (decide ((l1.length : Int) > 20)))) = some r := by rw [if_pos rfl] at H; exact H
  clear H
  have H := H1
  clear H1
  by_cases c8 : (l2.length : Int) = 0
  ·rw [if_pos c8] at H
   have c8b0 : ((l2.length : Int) == 0) = true := beq_iff_eq.mpr c8
   have c8b1 : ((l2.length : Int) != 0) = false := bne_eq_false_iff_eq.mpr c8
   clear c8
   (first | rw [c8b0] | (simp only [i64_w, i32_w]; rw [c8b0]) | skip)
   have H' := Aside0.mk H
   clear H
   go_wp2_with (first | ((with_reducible refine gate_callee (f := 8) rfl ?_); refine goesL_ (some 17) rfl rfl Try.func8 (by kernel_rfl) rfl #[.slice A2 l2.length c2] rfl (by (try simp only [List.map_toArray, List.map_cons, List.map_nil]); first | done | rfl | (simp only [List.length_drop, List.length_take]; rfl)) ?_; (with_reducible refine (interregnumlaw15_small.calls k _ _ l2 true _ ?side1 ?side2 A6.out).mono ?_); (case side1 => repeat (first | exact (Kd.C_below HR2.out HB.out) | (with_reducible refine Kd.C_alloc ?_ _) | (with_reducible refine Kd.C_drewN ?_ _) | (with_reducible refine Kd.C_drew ?_))); (case side2 => exact HC2.out); rintro e w9 ⟨rfl, hb⟩; refine ⟨_, rfl, ?_⟩; have n0_ := Aside0.mk (below_step (by repeat (first | (with_reducible first | exact HB.out | apply below_alloc | apply pw_below_drewN | apply below_drew1) | exact HB.out)) hb); clear HB; have HB := n0_; clear n0_; (try clear hb); (try clear hb2); (try clear hk); (try clear hi)))
   go_meet
   case rel => exact ⟨_, (true), (by first | rfl | (simp; done) | (simp [*]; done)), H', ⟨by first | omega | exact Nat.le_refl _⟩, ⟨by repeat (first | (with_reducible first | exact HB.out | apply below_alloc | apply pw_below_drewN | apply below_drew1) | exact HB.out)⟩⟩
  rw [if_neg c8] at H
  have c8b0 : ((l2.length : Int) == 0) = false := beq_eq_false_iff_ne.mpr c8
  have c8b1 : ((l2.length : Int) != 0) = true := bne_iff_ne.mpr c8
  have c8b2 : ¬ (l2 = []) := fun h_ => c8 (by rw [h_]; rfl)
  (first | rw [c8b0] | (simp only [i64_w, i32_w]; rw [c8b0]) | skip)
  have H' := Aside0.mk H
  clear H
  go_wp2_with (first | ((with_reducible refine gate_callee (f := 8) rfl ?_); refine goesL_ (some 17) rfl rfl Try.func8 (by kernel_rfl) rfl #[.slice A2 l2.length c2] rfl (by (try simp only [List.map_toArray, List.map_cons, List.map_nil]); first | done | rfl | (simp only [List.length_drop, List.length_take]; rfl)) ?_; (with_reducible refine (interregnumlaw15_small.calls k _ _ l2 true _ ?side1 ?side2 A6.out).mono ?_); (case side1 => repeat (first | exact (Kd.C_below HR2.out HB.out) | (with_reducible refine Kd.C_alloc ?_ _) | (with_reducible refine Kd.C_drewN ?_ _) | (with_reducible refine Kd.C_drew ?_))); (case side2 => exact HC2.out); rintro e w10 ⟨rfl, hb⟩; refine ⟨_, rfl, ?_⟩; have n0_ := Aside0.mk (below_step (by repeat (first | (with_reducible first | exact HB.out | apply below_alloc | apply pw_below_drewN | apply below_drew1) | exact HB.out)) hb); clear HB; have HB := n0_; clear n0_; (try clear hb); (try clear hb2); (try clear hk); (try clear hi)))
  go_meet
  case rel => exact ⟨_, (decide ((l1.length : Int) > 20)), (by first | rfl | (simp; done) | (simp [*]; done)), H', ⟨by first | omega | exact Nat.le_refl _⟩, ⟨by repeat (first | (with_reducible first | exact HB.out | apply below_alloc | apply pw_below_drewN | apply below_drew1) | exact HB.out)⟩⟩
 case rest =>
  clear HC5
  try clear c1
  try clear c2
  try clear p2
  try clear c4
  try clear c7
  try clear c8
  try clear c8b0
  try clear c8b1
  try clear c8b2
  obtain ⟨kq, x28_4, rfl, HA, HJ4, HB⟩ := hcut
  cases kq with
  | zero => exact absurd HA.out (by simp [interregnumlaw15_DecideOrder.j0])
  | succ kj4 =>
  have H := HA.out
  clear HA
  simp only [interregnumlaw15_DecideOrder.j0] at H
  by_cases c12 : x28_4 = true
  ·subst c12
   have H1 : ((interregnumlaw15_answers.f).bind fun t129 => (some t129)) = some r := by rw [if_pos rfl] at H; exact H
   clear H
   have H := H1
   clear H1
   replace H := Option.bind_eq_some_iff.mp H
   obtain ⟨t129, A130, H⟩ := H
   replace H : (some t129) = some r := H
   have A13 := Aside0.mk A130
   clear A130
   obtain rfl := Option.some.inj H
   go_wp2_with (first | ((with_reducible refine gate_callee (f := 9) rfl ?_); refine goesL_ (some 29) rfl rfl Try.func9 (by kernel_rfl) rfl #[] rfl (by (try simp only [List.map_toArray, List.map_cons, List.map_nil]); first | done | rfl | (simp only [List.length_drop, List.length_take]; rfl)) ?_; (with_reducible refine (interregnumlaw15_answers.calls  t129 _ A13.out).mono ?_); rintro e w14 ⟨rfl, hb⟩; refine ⟨_, rfl, ?_⟩; have n0_ := Aside0.mk (below_step (by repeat (first | (with_reducible first | exact HB.out | apply below_alloc | apply pw_below_drewN | apply below_drew1) | exact HB.out)) hb); clear HB; have HB := n0_; clear n0_; (try clear hb); (try clear hb2); (try clear hk); (try clear hi)))
   go_ret
   exact ⟨by first | rfl | (simp [errW_none, errW_some] <;> rfl) | (simp [*, errW_none, errW_some] <;> rfl), by repeat (first | (with_reducible first | exact HB.out | apply below_alloc | apply pw_below_drewN | apply below_drew1) | exact HB.out)⟩
  replace c12 := Bool.eq_false_iff.mpr c12
  subst c12
  have H1 : (interregnumlaw15_DecideOrder.l0 kj4 a0 l1 l2 a3 0) = some r := by rw [if_neg (show ¬ (false = true) by decide)] at H; exact H
  clear H
  have H := H1
  clear H1
  have H' := Aside0.mk H
  clear H
  go_wp2
  go_loopg [9] kj4 (fun kq v9 w' => ∃ (x9_2 : Int), v9 = .int .i64 x9_2 ∧ Aside0 (interregnumlaw15_DecideOrder.l0 kq a0 l1 l2 a3 x9_2 = some r) ∧ Aside0 (kq ≤ kj4) ∧ Aside0 (Below w.heap.size w w'))
  case atStart => exact ⟨(0), (by first | rfl | (simp; done) | (simp [*]; done)), H', ⟨Nat.le_refl _⟩, ⟨by repeat (first | (with_reducible first | exact HB.out | apply below_alloc | apply pw_below_drewN | apply below_drew1) | exact HB.out)⟩⟩
  clear H'
  try clear c1
  try clear c2
  try clear p2
  try clear c4
  try clear c7
  try clear c8
  try clear c8b0
  try clear c8b1
  try clear c8b2
  try clear c9
  try clear c12
  try clear p2
  obtain ⟨x9_2, rfl, HA, HK2, HB⟩ := hrel
  cases gk with
  | zero => exact absurd HA.out (by simp [interregnumlaw15_DecideOrder.l0])
  | succ k2 =>
  have H := HA.out
  clear HA
  simp only [interregnumlaw15_DecideOrder.l0] at H
  by_cases c15 : x9_2 < (l2.length : Int)
  ·rw [if_pos c15] at H
   have c15b0 : decide (x9_2 < (l2.length : Int)) = true := decide_eq_true c15
   clear c15
   have H' := Aside0.mk H
   clear H
   go_wp2
   go_loopg [10] k2 (fun kq v10 w' => ∃ (x10_3 : Int), v10 = .int .i64 x10_3 ∧ Aside0 (interregnumlaw15_DecideOrder.l1 kq a0 l1 l2 a3 x9_2 x10_3 = some r) ∧ Aside0 (kq ≤ k2) ∧ Aside0 (Below w.heap.size w w'))
   case atStart => exact ⟨(0), (by first | rfl | (simp; done) | (simp [*]; done)), H', ⟨Nat.le_refl _⟩, ⟨by repeat (first | (with_reducible first | exact HB.out | apply below_alloc | apply pw_below_drewN | apply below_drew1) | exact HB.out)⟩⟩
   clear H'
   try clear c1
   try clear c2
   try clear p2
   try clear c4
   try clear c7
   try clear c8
   try clear c8b0
   try clear c8b1
   try clear c8b2
   try clear c9
   try clear c12
   try clear c15
   try clear c15b0
   try clear p2
   obtain ⟨x10_3, rfl, HA, HK3, HB⟩ := hrel
   cases gk with
   | zero => exact absurd HA.out (by simp [interregnumlaw15_DecideOrder.l1])
   | succ k3 =>
   have H := HA.out
   clear HA
   simp only [interregnumlaw15_DecideOrder.l1] at H
   by_cases c16 : x10_3 < x9_2
   rotate_left
   ·rw [if_neg c16] at H
    have c16b0 : decide (x10_3 < x9_2) = false := decide_eq_false c16
    clear c16
    have H' := Aside0.mk H
    clear H
    go_wp2
    go_roundg k3
    case measure => have := HJ4.out; have := HK2.out; have := HK3.out; omega
    case rel => exact ⟨(wrap64 (x9_2 + 1)), (by first | rfl | (simp; done) | (simp [*]; done)), H', ⟨by have := HJ4.out; have := HK2.out; have := HK3.out; omega⟩, ⟨by repeat (first | (with_reducible first | exact HB.out | apply below_alloc | apply pw_below_drewN | apply below_drew1) | exact HB.out)⟩⟩
   rw [if_pos c16] at H
   have c16b0 : decide (x10_3 < x9_2) = true := decide_eq_true c16
   clear c16
   by_cases c17 : 0 ≤ x9_2
   rotate_left
   ·rw [if_neg c17] at H
    exact absurd H (by simp)
   rw [if_pos c17] at H
   have c17b0 : decide (0 ≤ x9_2) = true := decide_eq_true c17
   clear c17
   by_cases c18 : x9_2 < (l2.length : Int)
   rotate_left
   ·rw [if_neg c18] at H
    exact absurd H (by simp)
   rw [if_pos c18] at H
   have c18b0 : decide (x9_2 < (l2.length : Int)) = true := decide_eq_true c18
   clear c18
   by_cases c19 : 0 ≤ x10_3
   rotate_left
   ·rw [if_neg c19] at H
    exact absurd H (by simp)
   rw [if_pos c19] at H
   have c19b0 : decide (0 ≤ x10_3) = true := decide_eq_true c19
   clear c19
   by_cases c20 : x10_3 < (l2.length : Int)
   rotate_left
   ·rw [if_neg c20] at H
    exact absurd H (by simp)
   rw [if_pos c20] at H
   have c20b0 : decide (x10_3 < (l2.length : Int)) = true := decide_eq_true c20
   clear c20
   by_cases c21 : ((rd_T41 l2 x9_2).f1) = ((rd_T41 l2 x10_3).f1)
   rotate_left
   ·rw [if_neg c21] at H
    have c21b0 : (((rd_T41 l2 x9_2).f1) == ((rd_T41 l2 x10_3).f1)) = false := beq_eq_false_iff_ne.mpr c21
    have c21b1 : (((rd_T41 l2 x9_2).f1) != ((rd_T41 l2 x10_3).f1)) = true := bne_iff_ne.mpr c21
    have H' := Aside0.mk H
    clear H
    try go_wp2
    have n0_ := Aside0.mk (below_drew1 HB.out)
    clear HB
    have HB := n0_
    clear n0_
    have p130 : 0 ≤ (x9_2 : Int) := of_decide_eq_true (by first | (with_reducible assumption) | assumption)
    have q130 : x9_2 < (l2.length : Int) := of_decide_eq_true (by first | (with_reducible assumption) | assumption)
    obtain ⟨ad130, A130_4, c130_4, A130_8, c130_8, A130_9, c130_9, e130, hx130_0, hx130_1, hx130_2, hx130_3, hx130_4, hx130_5, hx130_6, hx130_7, hx130_8, hx130_9, hx130_10, hl130_4, hi130_4, hl130_8, hi130_8, hl130_9, hi130_9⟩ := at_T41 HR2.out x9_2 p130 q130
    have hw130_10 := hx130_10
    have hw130_9 := hx130_9
    have hw130_8 := hx130_8
    have hw130_7 := hx130_7
    have hw130_6 := hx130_6
    have hw130_5 := hx130_5
    have hw130_4 := hx130_4
    have hw130_3 := hx130_3
    have hw130_2 := hx130_2
    have hw130_1 := hx130_1
    have hw130_0 := hx130_0
    cases e130
    replace hx130_0 := (HB.out.cell (World.block_lt_of_cell? w _ hx130_0)).trans hx130_0
    replace hx130_1 := (HB.out.cell (World.block_lt_of_cell? w _ hx130_1)).trans hx130_1
    replace hx130_2 := (HB.out.cell (World.block_lt_of_cell? w _ hx130_2)).trans hx130_2
    replace hx130_3 := (HB.out.cell (World.block_lt_of_cell? w _ hx130_3)).trans hx130_3
    replace hx130_4 := (HB.out.cell (World.block_lt_of_cell? w _ hx130_4)).trans hx130_4
    replace hx130_5 := (HB.out.cell (World.block_lt_of_cell? w _ hx130_5)).trans hx130_5
    replace hx130_6 := (HB.out.cell (World.block_lt_of_cell? w _ hx130_6)).trans hx130_6
    replace hx130_7 := (HB.out.cell (World.block_lt_of_cell? w _ hx130_7)).trans hx130_7
    replace hx130_8 := (HB.out.cell (World.block_lt_of_cell? w _ hx130_8)).trans hx130_8
    replace hx130_9 := (HB.out.cell (World.block_lt_of_cell? w _ hx130_9)).trans hx130_9
    replace hx130_10 := (HB.out.cell (World.block_lt_of_cell? w _ hx130_10)).trans hx130_10
    have HR130_4 := Aside0.mk hi130_4
    have HC130_4 := Aside0.mk hl130_4
    clear hi130_4 hl130_4
    have HR130_8 := Aside0.mk hi130_8
    have HC130_8 := Aside0.mk hl130_8
    clear hi130_8 hl130_8
    have HR130_9 := Aside0.mk hi130_9
    have HC130_9 := Aside0.mk hl130_9
    clear hi130_9 hl130_9
    replace p130 := eq_true p130
    replace q130 := eq_true q130
    have p131 : 0 ≤ (x10_3 : Int) := of_decide_eq_true (by first | (with_reducible assumption) | assumption)
    have q131 : x10_3 < (l2.length : Int) := of_decide_eq_true (by first | (with_reducible assumption) | assumption)
    obtain ⟨ad131, A131_4, c131_4, A131_8, c131_8, A131_9, c131_9, e131, hx131_0, hx131_1, hx131_2, hx131_3, hx131_4, hx131_5, hx131_6, hx131_7, hx131_8, hx131_9, hx131_10, hl131_4, hi131_4, hl131_8, hi131_8, hl131_9, hi131_9⟩ := at_T41 HR2.out x10_3 p131 q131
    have hw131_10 := hx131_10
    have hw131_9 := hx131_9
    have hw131_8 := hx131_8
    have hw131_7 := hx131_7
    have hw131_6 := hx131_6
    have hw131_5 := hx131_5
    have hw131_4 := hx131_4
    have hw131_3 := hx131_3
    have hw131_2 := hx131_2
    have hw131_1 := hx131_1
    have hw131_0 := hx131_0
    obtain rfl : ad130 = ad131 := (by injection e131)
    replace hx131_0 := (HB.out.cell (World.block_lt_of_cell? w _ hx131_0)).trans hx131_0
    replace hx131_1 := (HB.out.cell (World.block_lt_of_cell? w _ hx131_1)).trans hx131_1
    replace hx131_2 := (HB.out.cell (World.block_lt_of_cell? w _ hx131_2)).trans hx131_2
    replace hx131_3 := (HB.out.cell (World.block_lt_of_cell? w _ hx131_3)).trans hx131_3
    replace hx131_4 := (HB.out.cell (World.block_lt_of_cell? w _ hx131_4)).trans hx131_4
    replace hx131_5 := (HB.out.cell (World.block_lt_of_cell? w _ hx131_5)).trans hx131_5
    replace hx131_6 := (HB.out.cell (World.block_lt_of_cell? w _ hx131_6)).trans hx131_6
    replace hx131_7 := (HB.out.cell (World.block_lt_of_cell? w _ hx131_7)).trans hx131_7
    replace hx131_8 := (HB.out.cell (World.block_lt_of_cell? w _ hx131_8)).trans hx131_8
    replace hx131_9 := (HB.out.cell (World.block_lt_of_cell? w _ hx131_9)).trans hx131_9
    replace hx131_10 := (HB.out.cell (World.block_lt_of_cell? w _ hx131_10)).trans hx131_10
    have HR131_4 := Aside0.mk hi131_4
    have HC131_4 := Aside0.mk hl131_4
    clear hi131_4 hl131_4
    have HR131_8 := Aside0.mk hi131_8
    have HC131_8 := Aside0.mk hl131_8
    clear hi131_8 hl131_8
    have HR131_9 := Aside0.mk hi131_9
    have HC131_9 := Aside0.mk hl131_9
    clear hi131_9 hl131_9
    replace p131 := eq_true p131
    replace q131 := eq_true q131
    refine start_ (n := 11) (S := fun w' => w'.cell? (ad130.add ((x9_2).toNat * 11)) = some (.int .u32 ((rd_T41 l2 x9_2).f0.f0)) ∧ w'.cell? ⟨(ad130.add ((x9_2).toNat * 11)).block, (ad130.add ((x9_2).toNat * 11)).off + 1, none⟩ = some (.int .i64 ((rd_T41 l2 x9_2).f0.f1)) ∧ w'.cell? ⟨(ad130.add ((x9_2).toNat * 11)).block, (ad130.add ((x9_2).toNat * 11)).off + 2, none⟩ = some (.int .i64 ((rd_T41 l2 x9_2).f1)) ∧ w'.cell? ⟨(ad130.add ((x9_2).toNat * 11)).block, (ad130.add ((x9_2).toNat * 11)).off + 3, none⟩ = some (.int .i64 ((rd_T41 l2 x9_2).f2.f0)) ∧ w'.cell? ⟨(ad130.add ((x9_2).toNat * 11)).block, (ad130.add ((x9_2).toNat * 11)).off + 4, none⟩ = some (.slice A130_4 ((rd_T41 l2 x9_2).f2.f1).length c130_4) ∧ w'.cell? ⟨(ad130.add ((x9_2).toNat * 11)).block, (ad130.add ((x9_2).toNat * 11)).off + 5, none⟩ = some (.int .u32 ((rd_T41 l2 x9_2).f2.f2)) ∧ w'.cell? ⟨(ad130.add ((x9_2).toNat * 11)).block, (ad130.add ((x9_2).toNat * 11)).off + 6, none⟩ = some (.int .i64 ((rd_T41 l2 x9_2).f2.f3)) ∧ w'.cell? ⟨(ad130.add ((x9_2).toNat * 11)).block, (ad130.add ((x9_2).toNat * 11)).off + 7, none⟩ = some (.int .i64 ((rd_T41 l2 x9_2).f2.f4)) ∧ w'.cell? ⟨(ad130.add ((x9_2).toNat * 11)).block, (ad130.add ((x9_2).toNat * 11)).off + 8, none⟩ = some (.slice A130_8 ((rd_T41 l2 x9_2).f2.f5).length c130_8) ∧ w'.cell? ⟨(ad130.add ((x9_2).toNat * 11)).block, (ad130.add ((x9_2).toNat * 11)).off + 9, none⟩ = some (.slice A130_9 ((rd_T41 l2 x9_2).f2.f6).length c130_9) ∧ w'.cell? ⟨(ad130.add ((x9_2).toNat * 11)).block, (ad130.add ((x9_2).toNat * 11)).off + 10, none⟩ = some (.int .i64 ((rd_T41 l2 x9_2).f3)) ∧ w'.cell? (ad130.add ((x10_3).toNat * 11)) = some (.int .u32 ((rd_T41 l2 x10_3).f0.f0)) ∧ w'.cell? ⟨(ad130.add ((x10_3).toNat * 11)).block, (ad130.add ((x10_3).toNat * 11)).off + 1, none⟩ = some (.int .i64 ((rd_T41 l2 x10_3).f0.f1)) ∧ w'.cell? ⟨(ad130.add ((x10_3).toNat * 11)).block, (ad130.add ((x10_3).toNat * 11)).off + 2, none⟩ = some (.int .i64 ((rd_T41 l2 x10_3).f1)) ∧ w'.cell? ⟨(ad130.add ((x10_3).toNat * 11)).block, (ad130.add ((x10_3).toNat * 11)).off + 3, none⟩ = some (.int .i64 ((rd_T41 l2 x10_3).f2.f0)) ∧ w'.cell? ⟨(ad130.add ((x10_3).toNat * 11)).block, (ad130.add ((x10_3).toNat * 11)).off + 4, none⟩ = some (.slice A131_4 ((rd_T41 l2 x10_3).f2.f1).length c131_4) ∧ w'.cell? ⟨(ad130.add ((x10_3).toNat * 11)).block, (ad130.add ((x10_3).toNat * 11)).off + 5, none⟩ = some (.int .u32 ((rd_T41 l2 x10_3).f2.f2)) ∧ w'.cell? ⟨(ad130.add ((x10_3).toNat * 11)).block, (ad130.add ((x10_3).toNat * 11)).off + 6, none⟩ = some (.int .i64 ((rd_T41 l2 x10_3).f2.f3)) ∧ w'.cell? ⟨(ad130.add ((x10_3).toNat * 11)).block, (ad130.add ((x10_3).toNat * 11)).off + 7, none⟩ = some (.int .i64 ((rd_T41 l2 x10_3).f2.f4)) ∧ w'.cell? ⟨(ad130.add ((x10_3).toNat * 11)).block, (ad130.add ((x10_3).toNat * 11)).off + 8, none⟩ = some (.slice A131_8 ((rd_T41 l2 x10_3).f2.f5).length c131_8) ∧ w'.cell? ⟨(ad130.add ((x10_3).toNat * 11)).block, (ad130.add ((x10_3).toNat * 11)).off + 9, none⟩ = some (.slice A131_9 ((rd_T41 l2 x10_3).f2.f6).length c131_9) ∧ w'.cell? ⟨(ad130.add ((x10_3).toNat * 11)).block, (ad130.add ((x10_3).toNat * 11)).off + 10, none⟩ = some (.int .i64 ((rd_T41 l2 x10_3).f3))) (ds := []) #[F_,F_,F_,F_,F_,F_,F_,F_,F_,F_,F_] (by kernel_rfl) rfl rfl ⟨((HB.out.cell (World.block_lt_of_cell? w _ hw130_0)).trans hw130_0), ((HB.out.cell (World.block_lt_of_cell? w _ hw130_1)).trans hw130_1), ((HB.out.cell (World.block_lt_of_cell? w _ hw130_2)).trans hw130_2), ((HB.out.cell (World.block_lt_of_cell? w _ hw130_3)).trans hw130_3), ((HB.out.cell (World.block_lt_of_cell? w _ hw130_4)).trans hw130_4), ((HB.out.cell (World.block_lt_of_cell? w _ hw130_5)).trans hw130_5), ((HB.out.cell (World.block_lt_of_cell? w _ hw130_6)).trans hw130_6), ((HB.out.cell (World.block_lt_of_cell? w _ hw130_7)).trans hw130_7), ((HB.out.cell (World.block_lt_of_cell? w _ hw130_8)).trans hw130_8), ((HB.out.cell (World.block_lt_of_cell? w _ hw130_9)).trans hw130_9), ((HB.out.cell (World.block_lt_of_cell? w _ hw130_10)).trans hw130_10), ((HB.out.cell (World.block_lt_of_cell? w _ hw131_0)).trans hw131_0), ((HB.out.cell (World.block_lt_of_cell? w _ hw131_1)).trans hw131_1), ((HB.out.cell (World.block_lt_of_cell? w _ hw131_2)).trans hw131_2), ((HB.out.cell (World.block_lt_of_cell? w _ hw131_3)).trans hw131_3), ((HB.out.cell (World.block_lt_of_cell? w _ hw131_4)).trans hw131_4), ((HB.out.cell (World.block_lt_of_cell? w _ hw131_5)).trans hw131_5), ((HB.out.cell (World.block_lt_of_cell? w _ hw131_6)).trans hw131_6), ((HB.out.cell (World.block_lt_of_cell? w _ hw131_7)).trans hw131_7), ((HB.out.cell (World.block_lt_of_cell? w _ hw131_8)).trans hw131_8), ((HB.out.cell (World.block_lt_of_cell? w _ hw131_9)).trans hw131_9), ((HB.out.cell (World.block_lt_of_cell? w _ hw131_10)).trans hw131_10)⟩ (fun hHeld => ?_); refine with_tabW interregnumlaw15_DecideOrder.tab9 interregnumlaw15_DecideOrder.bits9 (fun HT_ HW_ => ?_)
    generalize wr.drew = w25 at HB HR130_4 HR130_8 HR130_9 HR131_4 HR131_8 HR131_9 hx130_0 hx130_1 hx130_10 hx130_2 hx130_3 hx130_4 hx130_5 hx130_6 hx130_7 hx130_8 hx130_9 hx131_0 hx131_1 hx131_10 hx131_2 hx131_3 hx131_4 hx131_5 hx131_6 hx131_7 hx131_8 hx131_9 hHeld ⊢
    refine pure_ (i := 0) (N := some 41) (v := ?_) (a' := ?_) #[T_,F_,F_,F_,F_,F_,F_,F_,F_,F_,F_] rfl rfl (any_of HT_.out (by kernel_rfl)) (fun _ _ _ h => h) (Or.inl ⟨by rfl, ?_⟩) ?_ ?_
    rotate_left
    ·intro w'
     go_simp
     with_reducible rfl
    rotate_left
    ·simp only [Act.put, q1_, q2_, q3_, i64_w, i32_w]
     rfl
    refine pure_ (i := 1) (N := some 42) (v := ?_) (a' := ?_) #[T_,T_,F_,F_,F_,F_,F_,F_,F_,F_,F_] rfl rfl (any_of HT_.out (by kernel_rfl)) (fun _ _ _ h => h) (Or.inl ⟨by rfl, ?_⟩) ?_ ?_
    rotate_left
    ·intro w'
     go_simp
     with_reducible rfl
    rotate_left
    ·simp only [Act.put, q1_, q2_, q3_, i64_w, i32_w]
     rfl
    refine pure_ (i := 2) (N := some 43) (v := ?_) (a' := ?_) #[T_,T_,T_,F_,F_,F_,F_,F_,F_,F_,F_] rfl rfl (any_of HT_.out (by kernel_rfl)) (fun _ _ _ h => h) (Or.inl ⟨by rfl, ?_⟩) ?_ ?_
    rotate_left
    ·intro w'
     go_simp
     with_reducible rfl
    rotate_left
    ·simp only [Act.put, q1_, q2_, q3_, i64_w, i32_w]
     rfl
    refine pure_ (i := 3) (N := some 44) (v := ?_) (a' := ?_) #[T_,T_,T_,T_,F_,F_,F_,F_,F_,F_,F_] rfl rfl (any_of HT_.out (by kernel_rfl)) (fun _ _ _ h => h) (Or.inl ⟨by rfl, ?_⟩) ?_ ?_
    rotate_left
    ·intro w'
     go_simp
     with_reducible rfl
    rotate_left
    ·simp only [Act.put, q1_, q2_, q3_, i64_w, i32_w]
     rfl
    refine pure_ (i := 5) (N := some 46) (v := ?_) (a' := ?_) #[T_,T_,T_,T_,F_,T_,F_,F_,F_,F_,F_] rfl rfl (any_of HT_.out (by kernel_rfl)) (fun _ _ _ h => h) (Or.inl ⟨by rfl, ?_⟩) ?_ ?_
    rotate_left
    ·intro w'
     go_simp
     with_reducible rfl
    rotate_left
    ·simp only [Act.put, q1_, q2_, q3_, i64_w, i32_w]
     rfl
    refine pure_ (i := 6) (N := some 47) (v := ?_) (a' := ?_) #[T_,T_,T_,T_,F_,T_,T_,F_,F_,F_,F_] rfl rfl (any_of HT_.out (by kernel_rfl)) (fun _ _ _ h => h) (Or.inl ⟨by rfl, ?_⟩) ?_ ?_
    rotate_left
    ·intro w'
     go_simp
     with_reducible rfl
    rotate_left
    ·simp only [Act.put, q1_, q2_, q3_, i64_w, i32_w]
     rfl
    refine pure_ (i := 7) (N := some 48) (v := ?_) (a' := ?_) #[T_,T_,T_,T_,F_,T_,T_,T_,F_,F_,F_] rfl rfl (any_of HT_.out (by kernel_rfl)) (fun _ _ _ h => h) (Or.inl ⟨by rfl, ?_⟩) ?_ ?_
    rotate_left
    ·intro w'
     go_simp
     with_reducible rfl
    rotate_left
    ·simp only [Act.put, q1_, q2_, q3_, i64_w, i32_w]
     rfl
    refine pure_ (i := 8) (N := some 49) (v := ?_) (a' := ?_) #[T_,T_,T_,T_,F_,T_,T_,T_,T_,F_,F_] rfl rfl (any_of HT_.out (by kernel_rfl)) (fun _ _ _ h => h) (Or.inl ⟨by rfl, ?_⟩) ?_ ?_
    rotate_left
    ·intro w'
     go_simp
     with_reducible rfl
    rotate_left
    ·simp only [Act.put, q1_, q2_, q3_, i64_w, i32_w]
     rfl
    refine take_ (i := 4) (N := some 45) (v := ?_) (a' := ?_) #[T_,T_,T_,T_,T_,T_,T_,T_,T_,F_,F_] rfl rfl (take_ofW HT_.out HW_.out (by kernel_rfl)) (fun _ _ _ h => h) (Or.inl ⟨by rfl, ?_⟩) hHeld ?_ ?_
    rotate_left
    ·rintro w' ⟨s0, s1, s2, s3, s4, s5, s6, s7, s8, s9, s10, s11, s12, s13, s14, s15, s16, s17, s18, s19, s20, s21⟩
     go_simp
     with_reducible rfl
    rotate_left
    ·simp only [Act.put, q1_, q2_, q3_, i64_w, i32_w]
     rfl
    refine take_ (i := 9) (N := some 50) (v := ?_) (a' := ?_) #[T_,T_,T_,T_,T_,T_,T_,T_,T_,T_,F_] rfl rfl (take_ofW HT_.out HW_.out (by kernel_rfl)) (fun _ _ _ h => h) (Or.inl ⟨by rfl, ?_⟩) hHeld ?_ ?_
    rotate_left
    ·rintro w' ⟨s0, s1, s2, s3, s4, s5, s6, s7, s8, s9, s10, s11, s12, s13, s14, s15, s16, s17, s18, s19, s20, s21⟩
     go_simp
     with_reducible rfl
    rotate_left
    ·simp only [Act.put, q1_, q2_, q3_, i64_w, i32_w]
     rfl
    refine pure_ (i := 10) (N := some 51) (v := ?_) (a' := ?_) #[T_,T_,T_,T_,T_,T_,T_,T_,T_,T_,T_] rfl rfl (any_of HT_.out (by kernel_rfl)) (fun _ _ _ h => h) (Or.inl ⟨by rfl, ?_⟩) ?_ ?_
    rotate_left
    ·intro w'
     go_simp
     with_reducible rfl
    rotate_left
    ·simp only [Act.put, q1_, q2_, q3_, i64_w, i32_w]
     rfl
    refine done_ (done_of HT_.out (by kernel_rfl)) ?_
    try go_wp2
    go_roundg k3
    case measure => have := HJ4.out; have := HK2.out; have := HK3.out; omega
    case rel => exact ⟨(wrap64 (x10_3 + 1)), (by first | rfl | (simp; done) | (simp [*]; done)), H', ⟨by have := HJ4.out; have := HK2.out; have := HK3.out; omega⟩, ⟨by repeat (first | (with_reducible first | exact HB.out | apply below_alloc | apply pw_below_drewN | apply below_drew1) | exact HB.out)⟩⟩
   rw [if_pos c21] at H
   have c21b0 : (((rd_T41 l2 x9_2).f1) == ((rd_T41 l2 x10_3).f1)) = true := beq_iff_eq.mpr c21
   have c21b1 : (((rd_T41 l2 x9_2).f1) != ((rd_T41 l2 x10_3).f1)) = false := bne_eq_false_iff_eq.mpr c21
   clear c21
   replace H := Option.bind_eq_some_iff.mp H
   obtain ⟨t132, A220, H⟩ := H
   replace H : (some t132) = some r := H
   have A22 := Aside0.mk A220
   clear A220
   obtain rfl := Option.some.inj H
   try go_wp2
   have n0_ := Aside0.mk (below_drew1 HB.out)
   clear HB
   have HB := n0_
   clear n0_
   have p130 : 0 ≤ (x9_2 : Int) := of_decide_eq_true (by first | (with_reducible assumption) | assumption)
   have q130 : x9_2 < (l2.length : Int) := of_decide_eq_true (by first | (with_reducible assumption) | assumption)
   obtain ⟨ad130, A130_4, c130_4, A130_8, c130_8, A130_9, c130_9, e130, hx130_0, hx130_1, hx130_2, hx130_3, hx130_4, hx130_5, hx130_6, hx130_7, hx130_8, hx130_9, hx130_10, hl130_4, hi130_4, hl130_8, hi130_8, hl130_9, hi130_9⟩ := at_T41 HR2.out x9_2 p130 q130
   have hw130_10 := hx130_10
   have hw130_9 := hx130_9
   have hw130_8 := hx130_8
   have hw130_7 := hx130_7
   have hw130_6 := hx130_6
   have hw130_5 := hx130_5
   have hw130_4 := hx130_4
   have hw130_3 := hx130_3
   have hw130_2 := hx130_2
   have hw130_1 := hx130_1
   have hw130_0 := hx130_0
   cases e130
   replace hx130_0 := (HB.out.cell (World.block_lt_of_cell? w _ hx130_0)).trans hx130_0
   replace hx130_1 := (HB.out.cell (World.block_lt_of_cell? w _ hx130_1)).trans hx130_1
   replace hx130_2 := (HB.out.cell (World.block_lt_of_cell? w _ hx130_2)).trans hx130_2
   replace hx130_3 := (HB.out.cell (World.block_lt_of_cell? w _ hx130_3)).trans hx130_3
   replace hx130_4 := (HB.out.cell (World.block_lt_of_cell? w _ hx130_4)).trans hx130_4
   replace hx130_5 := (HB.out.cell (World.block_lt_of_cell? w _ hx130_5)).trans hx130_5
   replace hx130_6 := (HB.out.cell (World.block_lt_of_cell? w _ hx130_6)).trans hx130_6
   replace hx130_7 := (HB.out.cell (World.block_lt_of_cell? w _ hx130_7)).trans hx130_7
   replace hx130_8 := (HB.out.cell (World.block_lt_of_cell? w _ hx130_8)).trans hx130_8
   replace hx130_9 := (HB.out.cell (World.block_lt_of_cell? w _ hx130_9)).trans hx130_9
   replace hx130_10 := (HB.out.cell (World.block_lt_of_cell? w _ hx130_10)).trans hx130_10
   have HR130_4 := Aside0.mk hi130_4
   have HC130_4 := Aside0.mk hl130_4
   clear hi130_4 hl130_4
   have HR130_8 := Aside0.mk hi130_8
   have HC130_8 := Aside0.mk hl130_8
   clear hi130_8 hl130_8
   have HR130_9 := Aside0.mk hi130_9
   have HC130_9 := Aside0.mk hl130_9
   clear hi130_9 hl130_9
   replace p130 := eq_true p130
   replace q130 := eq_true q130
   have p131 : 0 ≤ (x10_3 : Int) := of_decide_eq_true (by first | (with_reducible assumption) | assumption)
   have q131 : x10_3 < (l2.length : Int) := of_decide_eq_true (by first | (with_reducible assumption) | assumption)
   obtain ⟨ad131, A131_4, c131_4, A131_8, c131_8, A131_9, c131_9, e131, hx131_0, hx131_1, hx131_2, hx131_3, hx131_4, hx131_5, hx131_6, hx131_7, hx131_8, hx131_9, hx131_10, hl131_4, hi131_4, hl131_8, hi131_8, hl131_9, hi131_9⟩ := at_T41 HR2.out x10_3 p131 q131
   have hw131_10 := hx131_10
   have hw131_9 := hx131_9
   have hw131_8 := hx131_8
   have hw131_7 := hx131_7
   have hw131_6 := hx131_6
   have hw131_5 := hx131_5
   have hw131_4 := hx131_4
   have hw131_3 := hx131_3
   have hw131_2 := hx131_2
   have hw131_1 := hx131_1
   have hw131_0 := hx131_0
   obtain rfl : ad130 = ad131 := (by injection e131)
   replace hx131_0 := (HB.out.cell (World.block_lt_of_cell? w _ hx131_0)).trans hx131_0
   replace hx131_1 := (HB.out.cell (World.block_lt_of_cell? w _ hx131_1)).trans hx131_1
   replace hx131_2 := (HB.out.cell (World.block_lt_of_cell? w _ hx131_2)).trans hx131_2
   replace hx131_3 := (HB.out.cell (World.block_lt_of_cell? w _ hx131_3)).trans hx131_3
   replace hx131_4 := (HB.out.cell (World.block_lt_of_cell? w _ hx131_4)).trans hx131_4
   replace hx131_5 := (HB.out.cell (World.block_lt_of_cell? w _ hx131_5)).trans hx131_5
   replace hx131_6 := (HB.out.cell (World.block_lt_of_cell? w _ hx131_6)).trans hx131_6
   replace hx131_7 := (HB.out.cell (World.block_lt_of_cell? w _ hx131_7)).trans hx131_7
   replace hx131_8 := (HB.out.cell (World.block_lt_of_cell? w _ hx131_8)).trans hx131_8
   replace hx131_9 := (HB.out.cell (World.block_lt_of_cell? w _ hx131_9)).trans hx131_9
   replace hx131_10 := (HB.out.cell (World.block_lt_of_cell? w _ hx131_10)).trans hx131_10
   have HR131_4 := Aside0.mk hi131_4
   have HC131_4 := Aside0.mk hl131_4
   clear hi131_4 hl131_4
   have HR131_8 := Aside0.mk hi131_8
   have HC131_8 := Aside0.mk hl131_8
   clear hi131_8 hl131_8
   have HR131_9 := Aside0.mk hi131_9
   have HC131_9 := Aside0.mk hl131_9
   clear hi131_9 hl131_9
   replace p131 := eq_true p131
   replace q131 := eq_true q131
   refine start_ (n := 11) (S := fun w' => w'.cell? (ad130.add ((x9_2).toNat * 11)) = some (.int .u32 ((rd_T41 l2 x9_2).f0.f0)) ∧ w'.cell? ⟨(ad130.add ((x9_2).toNat * 11)).block, (ad130.add ((x9_2).toNat * 11)).off + 1, none⟩ = some (.int .i64 ((rd_T41 l2 x9_2).f0.f1)) ∧ w'.cell? ⟨(ad130.add ((x9_2).toNat * 11)).block, (ad130.add ((x9_2).toNat * 11)).off + 2, none⟩ = some (.int .i64 ((rd_T41 l2 x9_2).f1)) ∧ w'.cell? ⟨(ad130.add ((x9_2).toNat * 11)).block, (ad130.add ((x9_2).toNat * 11)).off + 3, none⟩ = some (.int .i64 ((rd_T41 l2 x9_2).f2.f0)) ∧ w'.cell? ⟨(ad130.add ((x9_2).toNat * 11)).block, (ad130.add ((x9_2).toNat * 11)).off + 4, none⟩ = some (.slice A130_4 ((rd_T41 l2 x9_2).f2.f1).length c130_4) ∧ w'.cell? ⟨(ad130.add ((x9_2).toNat * 11)).block, (ad130.add ((x9_2).toNat * 11)).off + 5, none⟩ = some (.int .u32 ((rd_T41 l2 x9_2).f2.f2)) ∧ w'.cell? ⟨(ad130.add ((x9_2).toNat * 11)).block, (ad130.add ((x9_2).toNat * 11)).off + 6, none⟩ = some (.int .i64 ((rd_T41 l2 x9_2).f2.f3)) ∧ w'.cell? ⟨(ad130.add ((x9_2).toNat * 11)).block, (ad130.add ((x9_2).toNat * 11)).off + 7, none⟩ = some (.int .i64 ((rd_T41 l2 x9_2).f2.f4)) ∧ w'.cell? ⟨(ad130.add ((x9_2).toNat * 11)).block, (ad130.add ((x9_2).toNat * 11)).off + 8, none⟩ = some (.slice A130_8 ((rd_T41 l2 x9_2).f2.f5).length c130_8) ∧ w'.cell? ⟨(ad130.add ((x9_2).toNat * 11)).block, (ad130.add ((x9_2).toNat * 11)).off + 9, none⟩ = some (.slice A130_9 ((rd_T41 l2 x9_2).f2.f6).length c130_9) ∧ w'.cell? ⟨(ad130.add ((x9_2).toNat * 11)).block, (ad130.add ((x9_2).toNat * 11)).off + 10, none⟩ = some (.int .i64 ((rd_T41 l2 x9_2).f3)) ∧ w'.cell? (ad130.add ((x10_3).toNat * 11)) = some (.int .u32 ((rd_T41 l2 x10_3).f0.f0)) ∧ w'.cell? ⟨(ad130.add ((x10_3).toNat * 11)).block, (ad130.add ((x10_3).toNat * 11)).off + 1, none⟩ = some (.int .i64 ((rd_T41 l2 x10_3).f0.f1)) ∧ w'.cell? ⟨(ad130.add ((x10_3).toNat * 11)).block, (ad130.add ((x10_3).toNat * 11)).off + 2, none⟩ = some (.int .i64 ((rd_T41 l2 x10_3).f1)) ∧ w'.cell? ⟨(ad130.add ((x10_3).toNat * 11)).block, (ad130.add ((x10_3).toNat * 11)).off + 3, none⟩ = some (.int .i64 ((rd_T41 l2 x10_3).f2.f0)) ∧ w'.cell? ⟨(ad130.add ((x10_3).toNat * 11)).block, (ad130.add ((x10_3).toNat * 11)).off + 4, none⟩ = some (.slice A131_4 ((rd_T41 l2 x10_3).f2.f1).length c131_4) ∧ w'.cell? ⟨(ad130.add ((x10_3).toNat * 11)).block, (ad130.add ((x10_3).toNat * 11)).off + 5, none⟩ = some (.int .u32 ((rd_T41 l2 x10_3).f2.f2)) ∧ w'.cell? ⟨(ad130.add ((x10_3).toNat * 11)).block, (ad130.add ((x10_3).toNat * 11)).off + 6, none⟩ = some (.int .i64 ((rd_T41 l2 x10_3).f2.f3)) ∧ w'.cell? ⟨(ad130.add ((x10_3).toNat * 11)).block, (ad130.add ((x10_3).toNat * 11)).off + 7, none⟩ = some (.int .i64 ((rd_T41 l2 x10_3).f2.f4)) ∧ w'.cell? ⟨(ad130.add ((x10_3).toNat * 11)).block, (ad130.add ((x10_3).toNat * 11)).off + 8, none⟩ = some (.slice A131_8 ((rd_T41 l2 x10_3).f2.f5).length c131_8) ∧ w'.cell? ⟨(ad130.add ((x10_3).toNat * 11)).block, (ad130.add ((x10_3).toNat * 11)).off + 9, none⟩ = some (.slice A131_9 ((rd_T41 l2 x10_3).f2.f6).length c131_9) ∧ w'.cell? ⟨(ad130.add ((x10_3).toNat * 11)).block, (ad130.add ((x10_3).toNat * 11)).off + 10, none⟩ = some (.int .i64 ((rd_T41 l2 x10_3).f3))) (ds := []) #[F_,F_,F_,F_,F_,F_,F_,F_,F_,F_,F_] (by kernel_rfl) rfl rfl ⟨((HB.out.cell (World.block_lt_of_cell? w _ hw130_0)).trans hw130_0), ((HB.out.cell (World.block_lt_of_cell? w _ hw130_1)).trans hw130_1), ((HB.out.cell (World.block_lt_of_cell? w _ hw130_2)).trans hw130_2), ((HB.out.cell (World.block_lt_of_cell? w _ hw130_3)).trans hw130_3), ((HB.out.cell (World.block_lt_of_cell? w _ hw130_4)).trans hw130_4), ((HB.out.cell (World.block_lt_of_cell? w _ hw130_5)).trans hw130_5), ((HB.out.cell (World.block_lt_of_cell? w _ hw130_6)).trans hw130_6), ((HB.out.cell (World.block_lt_of_cell? w _ hw130_7)).trans hw130_7), ((HB.out.cell (World.block_lt_of_cell? w _ hw130_8)).trans hw130_8), ((HB.out.cell (World.block_lt_of_cell? w _ hw130_9)).trans hw130_9), ((HB.out.cell (World.block_lt_of_cell? w _ hw130_10)).trans hw130_10), ((HB.out.cell (World.block_lt_of_cell? w _ hw131_0)).trans hw131_0), ((HB.out.cell (World.block_lt_of_cell? w _ hw131_1)).trans hw131_1), ((HB.out.cell (World.block_lt_of_cell? w _ hw131_2)).trans hw131_2), ((HB.out.cell (World.block_lt_of_cell? w _ hw131_3)).trans hw131_3), ((HB.out.cell (World.block_lt_of_cell? w _ hw131_4)).trans hw131_4), ((HB.out.cell (World.block_lt_of_cell? w _ hw131_5)).trans hw131_5), ((HB.out.cell (World.block_lt_of_cell? w _ hw131_6)).trans hw131_6), ((HB.out.cell (World.block_lt_of_cell? w _ hw131_7)).trans hw131_7), ((HB.out.cell (World.block_lt_of_cell? w _ hw131_8)).trans hw131_8), ((HB.out.cell (World.block_lt_of_cell? w _ hw131_9)).trans hw131_9), ((HB.out.cell (World.block_lt_of_cell? w _ hw131_10)).trans hw131_10)⟩ (fun hHeld => ?_); refine with_tabW interregnumlaw15_DecideOrder.tab9 interregnumlaw15_DecideOrder.bits9 (fun HT_ HW_ => ?_)
   generalize wr.drew = w23 at HB HR130_4 HR130_8 HR130_9 HR131_4 HR131_8 HR131_9 hx130_0 hx130_1 hx130_10 hx130_2 hx130_3 hx130_4 hx130_5 hx130_6 hx130_7 hx130_8 hx130_9 hx131_0 hx131_1 hx131_10 hx131_2 hx131_3 hx131_4 hx131_5 hx131_6 hx131_7 hx131_8 hx131_9 hHeld ⊢
   refine pure_ (i := 0) (N := some 41) (v := ?_) (a' := ?_) #[T_,F_,F_,F_,F_,F_,F_,F_,F_,F_,F_] rfl rfl (any_of HT_.out (by kernel_rfl)) (fun _ _ _ h => h) (Or.inl ⟨by rfl, ?_⟩) ?_ ?_
   rotate_left
   ·intro w'
    go_simp
    with_reducible rfl
   rotate_left
   ·simp only [Act.put, q1_, q2_, q3_, i64_w, i32_w]
    rfl
   refine pure_ (i := 1) (N := some 42) (v := ?_) (a' := ?_) #[T_,T_,F_,F_,F_,F_,F_,F_,F_,F_,F_] rfl rfl (any_of HT_.out (by kernel_rfl)) (fun _ _ _ h => h) (Or.inl ⟨by rfl, ?_⟩) ?_ ?_
   rotate_left
   ·intro w'
    go_simp
    with_reducible rfl
   rotate_left
   ·simp only [Act.put, q1_, q2_, q3_, i64_w, i32_w]
    rfl
   refine pure_ (i := 2) (N := some 43) (v := ?_) (a' := ?_) #[T_,T_,T_,F_,F_,F_,F_,F_,F_,F_,F_] rfl rfl (any_of HT_.out (by kernel_rfl)) (fun _ _ _ h => h) (Or.inl ⟨by rfl, ?_⟩) ?_ ?_
   rotate_left
   ·intro w'
    go_simp
    with_reducible rfl
   rotate_left
   ·simp only [Act.put, q1_, q2_, q3_, i64_w, i32_w]
    rfl
   refine pure_ (i := 3) (N := some 44) (v := ?_) (a' := ?_) #[T_,T_,T_,T_,F_,F_,F_,F_,F_,F_,F_] rfl rfl (any_of HT_.out (by kernel_rfl)) (fun _ _ _ h => h) (Or.inl ⟨by rfl, ?_⟩) ?_ ?_
   rotate_left
   ·intro w'
    go_simp
    with_reducible rfl
   rotate_left
   ·simp only [Act.put, q1_, q2_, q3_, i64_w, i32_w]
    rfl
   refine pure_ (i := 5) (N := some 46) (v := ?_) (a' := ?_) #[T_,T_,T_,T_,F_,T_,F_,F_,F_,F_,F_] rfl rfl (any_of HT_.out (by kernel_rfl)) (fun _ _ _ h => h) (Or.inl ⟨by rfl, ?_⟩) ?_ ?_
   rotate_left
   ·intro w'
    go_simp
    with_reducible rfl
   rotate_left
   ·simp only [Act.put, q1_, q2_, q3_, i64_w, i32_w]
    rfl
   refine pure_ (i := 6) (N := some 47) (v := ?_) (a' := ?_) #[T_,T_,T_,T_,F_,T_,T_,F_,F_,F_,F_] rfl rfl (any_of HT_.out (by kernel_rfl)) (fun _ _ _ h => h) (Or.inl ⟨by rfl, ?_⟩) ?_ ?_
   rotate_left
   ·intro w'
    go_simp
    with_reducible rfl
   rotate_left
   ·simp only [Act.put, q1_, q2_, q3_, i64_w, i32_w]
    rfl
   refine pure_ (i := 7) (N := some 48) (v := ?_) (a' := ?_) #[T_,T_,T_,T_,F_,T_,T_,T_,F_,F_,F_] rfl rfl (any_of HT_.out (by kernel_rfl)) (fun _ _ _ h => h) (Or.inl ⟨by rfl, ?_⟩) ?_ ?_
   rotate_left
   ·intro w'
    go_simp
    with_reducible rfl
   rotate_left
   ·simp only [Act.put, q1_, q2_, q3_, i64_w, i32_w]
    rfl
   refine pure_ (i := 8) (N := some 49) (v := ?_) (a' := ?_) #[T_,T_,T_,T_,F_,T_,T_,T_,T_,F_,F_] rfl rfl (any_of HT_.out (by kernel_rfl)) (fun _ _ _ h => h) (Or.inl ⟨by rfl, ?_⟩) ?_ ?_
   rotate_left
   ·intro w'
    go_simp
    with_reducible rfl
   rotate_left
   ·simp only [Act.put, q1_, q2_, q3_, i64_w, i32_w]
    rfl
   refine take_ (i := 4) (N := some 45) (v := ?_) (a' := ?_) #[T_,T_,T_,T_,T_,T_,T_,T_,T_,F_,F_] rfl rfl (take_ofW HT_.out HW_.out (by kernel_rfl)) (fun _ _ _ h => h) (Or.inl ⟨by rfl, ?_⟩) hHeld ?_ ?_
   rotate_left
   ·rintro w' ⟨s0, s1, s2, s3, s4, s5, s6, s7, s8, s9, s10, s11, s12, s13, s14, s15, s16, s17, s18, s19, s20, s21⟩
    go_simp
    with_reducible rfl
   rotate_left
   ·simp only [Act.put, q1_, q2_, q3_, i64_w, i32_w]
    rfl
   refine take_ (i := 9) (N := some 50) (v := ?_) (a' := ?_) #[T_,T_,T_,T_,T_,T_,T_,T_,T_,T_,F_] rfl rfl (take_ofW HT_.out HW_.out (by kernel_rfl)) (fun _ _ _ h => h) (Or.inl ⟨by rfl, ?_⟩) hHeld ?_ ?_
   rotate_left
   ·rintro w' ⟨s0, s1, s2, s3, s4, s5, s6, s7, s8, s9, s10, s11, s12, s13, s14, s15, s16, s17, s18, s19, s20, s21⟩
    go_simp
    with_reducible rfl
   rotate_left
   ·simp only [Act.put, q1_, q2_, q3_, i64_w, i32_w]
    rfl
   refine pure_ (i := 10) (N := some 51) (v := ?_) (a' := ?_) #[T_,T_,T_,T_,T_,T_,T_,T_,T_,T_,T_] rfl rfl (any_of HT_.out (by kernel_rfl)) (fun _ _ _ h => h) (Or.inl ⟨by rfl, ?_⟩) ?_ ?_
   rotate_left
   ·intro w'
    go_simp
    with_reducible rfl
   rotate_left
   ·simp only [Act.put, q1_, q2_, q3_, i64_w, i32_w]
    rfl
   refine done_ (done_of HT_.out (by kernel_rfl)) ?_
   try go_wp2_with (first | ((with_reducible refine gate_callee (f := 9) rfl ?_); refine goesL_ (some 52) rfl rfl Try.func9 (by kernel_rfl) rfl #[] rfl (by (try simp only [List.map_toArray, List.map_cons, List.map_nil]); first | done | rfl | (simp only [List.length_drop, List.length_take]; rfl)) ?_; (with_reducible refine (interregnumlaw15_answers.calls  t132 _ A22.out).mono ?_); rintro e w24 ⟨rfl, hb⟩; refine ⟨_, rfl, ?_⟩; have n0_ := Aside0.mk (below_step (by repeat (first | (with_reducible first | exact HB.out | apply below_alloc | apply pw_below_drewN | apply below_drew1) | exact HB.out)) hb); clear HB; have HB := n0_; clear n0_; (try clear hb); (try clear hb2); (try clear hk); (try clear hi)))
   go_ret
   exact ⟨by first | rfl | (simp [errW_none, errW_some] <;> rfl) | (simp [*, errW_none, errW_some] <;> rfl), by repeat (first | (with_reducible first | exact HB.out | apply below_alloc | apply pw_below_drewN | apply below_drew1) | exact HB.out)⟩
  rw [if_neg c15] at H
  have c15b0 : decide (x9_2 < (l2.length : Int)) = false := decide_eq_false c15
  clear c15
  by_cases c26 : (l2.length : Int) = 0
  ·rw [if_pos c26] at H
   exact absurd H (by simp)
  rw [if_neg c26] at H
  have c26b0 : ((l2.length : Int) == 0) = false := beq_eq_false_iff_ne.mpr c26
  have c26b1 : ((l2.length : Int) != 0) = true := bne_iff_ne.mpr c26
  have c26b2 : ¬ (l2 = []) := fun h_ => c26 (by rw [h_]; rfl)
  replace H := Option.bind_eq_some_iff.mp H
  obtain ⟨⟨t133, t134⟩, A270, H⟩ := H
  replace H : ((some (([] : List (S41)) : List (S41))).bind fun y135 => (if 0 ≤ (Int.tmod (wrap64 (a3)) (l2.length : Int)) then (if (Int.tmod (wrap64 (a3)) (l2.length : Int)) ≤ (l2.length : Int) then ((some (l2.drop ((Int.tmod (wrap64 (a3)) (l2.length : Int)) : Int).toNat : List (S41))).bind fun y138 => (if y135.length + y138.length < 1034834473200 then ((some (y135 ++ y138 : List (S41))).bind fun y142 => ((some (l2.take ((Int.tmod (wrap64 (a3)) (l2.length : Int)) : Int).toNat : List (S41))).bind fun y145 => (if y142.length + y145.length < 1034834473200 then ((decide_Best.f a0 l1 (y142 ++ y145)).bind fun bt152 => ((interregnumlaw15_answers.f).bind fun t154 => (if t154 = true then (if (t134 == bt152.2) = true then (if t134 = true then (some (t133 == (Int.tmod (wrap64 (bt152.1 + (Int.tmod (wrap64 (a3)) (l2.length : Int)))) (l2.length : Int)))) else (some true)) else (some false)) else (some false)))) else (none)))) else (none))) else (none)) else (none))) = some r := H
  have A27 := Aside0.mk A270
  clear A270
  obtain ⟨y135, hy135⟩ : ∃ y_ : List (S41), y_ = (([] : List (S41))) := ⟨_, rfl⟩
  replace H : (if 0 ≤ (Int.tmod (wrap64 (a3)) (l2.length : Int)) then (if (Int.tmod (wrap64 (a3)) (l2.length : Int)) ≤ (l2.length : Int) then ((some (l2.drop ((Int.tmod (wrap64 (a3)) (l2.length : Int)) : Int).toNat : List (S41))).bind fun y138 => (if y135.length + y138.length < 1034834473200 then ((some (y135 ++ y138 : List (S41))).bind fun y142 => ((some (l2.take ((Int.tmod (wrap64 (a3)) (l2.length : Int)) : Int).toNat : List (S41))).bind fun y145 => (if y142.length + y145.length < 1034834473200 then ((decide_Best.f a0 l1 (y142 ++ y145)).bind fun bt152 => ((interregnumlaw15_answers.f).bind fun t154 => (if t154 = true then (if (t134 == bt152.2) = true then (if t134 = true then (some (t133 == (Int.tmod (wrap64 (bt152.1 + (Int.tmod (wrap64 (a3)) (l2.length : Int)))) (l2.length : Int)))) else (some true)) else (some false)) else (some false)))) else (none)))) else (none))) else (none)) else (none)) = some r := by first | (rw [hy135]; with_reducible exact H) | (have H2_ := (Option.bind_some _ _).symm.trans H; rw [hy135]; with_reducible exact H2_) | (have H2_ := (Option.bind_some _ _).symm.trans H; with_reducible exact H2_) | with_reducible exact H | (rw [hy135]; exact H) | exact H
  have Ny135 := Aside0.mk hy135
  clear hy135
  obtain ⟨ji28, hji28⟩ : ∃ j_ : Int, (Int.tmod (wrap64 (a3)) (l2.length : Int)) = j_ := ⟨_, rfl⟩
  replace H : (if 0 ≤ (ji28) then (if (ji28) ≤ (l2.length : Int) then ((some (l2.drop ((ji28) : Int).toNat : List (S41))).bind fun y138 => (if y135.length + y138.length < 1034834473200 then ((some (y135 ++ y138 : List (S41))).bind fun y142 => ((some (l2.take ((ji28) : Int).toNat : List (S41))).bind fun y145 => (if y142.length + y145.length < 1034834473200 then ((decide_Best.f a0 l1 (y142 ++ y145)).bind fun bt152 => ((interregnumlaw15_answers.f).bind fun t154 => (if t154 = true then (if (t134 == bt152.2) = true then (if t134 = true then (some (t133 == (Int.tmod (wrap64 (bt152.1 + (ji28))) (l2.length : Int)))) else (some true)) else (some false)) else (some false)))) else (none)))) else (none))) else (none)) else (none)) = some r := by first | (rw [hji28] at H; exact H) | (simp only [hji28] at H ⊢; exact H)
  (try rw [hji28] at A27)
  by_cases c29 : 0 ≤ (ji28)
  rotate_left
  ·rw [if_neg c29] at H
   exact absurd H (by simp)
  rw [if_pos c29] at H
  have c29b0 := eq_true c29
  have c29b1 : decide (0 ≤ (ji28)) = true := decide_eq_true c29
  clear c29
  by_cases c30 : (ji28) ≤ (l2.length : Int)
  rotate_left
  ·rw [if_neg c30] at H
   exact absurd H (by simp)
  rw [if_pos c30] at H
  have c30b0 := eq_true c30
  have c30b1 : decide ((ji28) ≤ (l2.length : Int)) = true := decide_eq_true c30
  clear c30
  obtain ⟨y138, hy138⟩ : ∃ y_ : List (S41), y_ = (l2.drop ((ji28) : Int).toNat) := ⟨_, rfl⟩
  replace H : (if y135.length + y138.length < 1034834473200 then ((some (y135 ++ y138 : List (S41))).bind fun y142 => ((some (l2.take ((ji28) : Int).toNat : List (S41))).bind fun y145 => (if y142.length + y145.length < 1034834473200 then ((decide_Best.f a0 l1 (y142 ++ y145)).bind fun bt152 => ((interregnumlaw15_answers.f).bind fun t154 => (if t154 = true then (if (t134 == bt152.2) = true then (if t134 = true then (some (t133 == (Int.tmod (wrap64 (bt152.1 + (ji28))) (l2.length : Int)))) else (some true)) else (some false)) else (some false)))) else (none)))) else (none)) = some r := by first | (rw [hy138]; with_reducible exact H) | (have H2_ := (Option.bind_some _ _).symm.trans H; rw [hy138]; with_reducible exact H2_) | (have H2_ := (Option.bind_some _ _).symm.trans H; with_reducible exact H2_) | with_reducible exact H | (rw [hy138]; exact H) | exact H
  have Ny138 := Aside0.mk hy138
  clear hy138
  by_cases c31 : y135.length + y138.length < 1034834473200
  rotate_left
  ·rw [if_neg c31] at H
   exact absurd H (by simp)
  rw [if_pos c31] at H
  have LMc31 := Aside0.mk c31
  clear c31
  obtain ⟨y142, hy142⟩ : ∃ y_ : List (S41), y_ = (y135 ++ y138) := ⟨_, rfl⟩
  replace H : ((some (l2.take ((ji28) : Int).toNat : List (S41))).bind fun y145 => (if y142.length + y145.length < 1034834473200 then ((decide_Best.f a0 l1 (y142 ++ y145)).bind fun bt152 => ((interregnumlaw15_answers.f).bind fun t154 => (if t154 = true then (if (t134 == bt152.2) = true then (if t134 = true then (some (t133 == (Int.tmod (wrap64 (bt152.1 + (ji28))) (l2.length : Int)))) else (some true)) else (some false)) else (some false)))) else (none))) = some r := by first | (rw [hy142]; with_reducible exact H) | (have H2_ := (Option.bind_some _ _).symm.trans H; rw [hy142]; with_reducible exact H2_) | (have H2_ := (Option.bind_some _ _).symm.trans H; with_reducible exact H2_) | with_reducible exact H | (rw [hy142]; exact H) | exact H
  have Ny142 := Aside0.mk hy142
  clear hy142
  have c32b0 := eq_true (of_decide_eq_true (by first | (with_reducible assumption) | assumption) : 0 ≤ (ji28))
  have c33b0 := eq_true (of_decide_eq_true (by first | (with_reducible assumption) | assumption) : (ji28) ≤ (l2.length : Int))
  obtain ⟨y145, hy145⟩ : ∃ y_ : List (S41), y_ = (l2.take ((ji28) : Int).toNat) := ⟨_, rfl⟩
  replace H : (if y142.length + y145.length < 1034834473200 then ((decide_Best.f a0 l1 (y142 ++ y145)).bind fun bt152 => ((interregnumlaw15_answers.f).bind fun t154 => (if t154 = true then (if (t134 == bt152.2) = true then (if t134 = true then (some (t133 == (Int.tmod (wrap64 (bt152.1 + (ji28))) (l2.length : Int)))) else (some true)) else (some false)) else (some false)))) else (none)) = some r := by first | (rw [hy145]; with_reducible exact H) | (have H2_ := (Option.bind_some _ _).symm.trans H; rw [hy145]; with_reducible exact H2_) | (have H2_ := (Option.bind_some _ _).symm.trans H; with_reducible exact H2_) | with_reducible exact H | (rw [hy145]; exact H) | exact H
  have Ny145 := Aside0.mk hy145
  clear hy145
  by_cases c34 : y142.length + y145.length < 1034834473200
  rotate_left
  ·rw [if_neg c34] at H
   exact absurd H (by simp)
  rw [if_pos c34] at H
  have LMc34 := Aside0.mk c34
  clear c34
  obtain ⟨y149, hy149⟩ : ∃ y_ : List (S41), y_ = (y142 ++ y145) := ⟨_, rfl⟩
  replace H : ((decide_Best.f a0 l1 y149).bind fun bt152 => ((interregnumlaw15_answers.f).bind fun t154 => (if t154 = true then (if (t134 == bt152.2) = true then (if t134 = true then (some (t133 == (Int.tmod (wrap64 (bt152.1 + (ji28))) (l2.length : Int)))) else (some true)) else (some false)) else (some false)))) = some r := by first | (rw [hy149]; with_reducible exact H) | (have H2_ := (Option.bind_some _ _).symm.trans H; rw [hy149]; with_reducible exact H2_) | (have H2_ := (Option.bind_some _ _).symm.trans H; with_reducible exact H2_) | with_reducible exact H | (rw [hy149]; exact H) | exact H
  have Ny149 := Aside0.mk hy149
  clear hy149
  replace H := Option.bind_eq_some_iff.mp H
  obtain ⟨⟨t152, t153⟩, A350, H⟩ := H
  replace H : ((interregnumlaw15_answers.f).bind fun t154 => (if t154 = true then (if (t134 == t153) = true then (if t134 = true then (some (t133 == (Int.tmod (wrap64 (t152 + (ji28))) (l2.length : Int)))) else (some true)) else (some false)) else (some false))) = some r := H
  have A35 := Aside0.mk A350
  clear A350
  replace H := Option.bind_eq_some_iff.mp H
  obtain ⟨t154, A360, H⟩ := H
  replace H : (if t154 = true then (if (t134 == t153) = true then (if t134 = true then (some (t133 == (Int.tmod (wrap64 (t152 + (ji28))) (l2.length : Int)))) else (some true)) else (some false)) else (some false)) = some r := H
  have A36 := Aside0.mk A360
  clear A360
  by_cases c37 : t154 = true
  rotate_left
  ·replace c37 := Bool.eq_false_iff.mpr c37
   subst c37
   have H1 : (some false) = some r := by rw [if_neg (show ¬ (false = true) by decide)] at H; exact H
   clear H
   have H := H1
   clear H1
   obtain rfl := Option.some.inj H
   try go_wp2_with (first | ((with_reducible refine gate_callee (f := 10) rfl ?_); refine goesL_ (some 62) rfl rfl Try.func10 (by kernel_rfl) rfl #[.int .i64 a0, .slice A1 l1.length c1, .slice A2 l2.length c2] rfl (by (try simp only [List.map_toArray, List.map_cons, List.map_nil]); first | done | rfl | (simp only [List.length_drop, List.length_take]; rfl)) ?_; (with_reducible refine (decide_Best.calls a0 _ _ l1 _ _ l2 t133 t134 _ ?side1 ?side2 ?side3 ?side4 A27.out).mono ?_); (case side1 => repeat (first | exact (Kd.C_below HR1.out HB.out) | (with_reducible refine Kd.C_alloc ?_ _) | (with_reducible refine Kd.C_drewN ?_ _) | (with_reducible refine Kd.C_drew ?_))); (case side2 => exact HC1.out); (case side3 => repeat (first | exact (Kd.C_below HR2.out HB.out) | (with_reducible refine Kd.C_alloc ?_ _) | (with_reducible refine Kd.C_drewN ?_ _) | (with_reducible refine Kd.C_drew ?_))); (case side4 => exact HC2.out); rintro e w73 ⟨rfl, hb⟩; refine ⟨_, rfl, ?_⟩; have n0_ := Aside0.mk (below_step (by repeat (first | (with_reducible first | exact HB.out | apply below_alloc | apply pw_below_drewN | apply below_drew1) | exact HB.out)) hb); clear HB; have HB := n0_; clear n0_; (try clear hb); (try clear hb2); (try clear hk); (try clear hi)))
   have n0_ := Aside0.mk (below_drew1 HB.out)
   clear HB
   have HB := n0_
   clear n0_
   have q75 : ((ji28) : Int) ≤ ((l2.length : Int) : Int) := of_decide_eq_true (by first | (with_reducible assumption) | assumption)
   obtain ⟨i075, hi075, _, hsz75, _⟩ := info_parts info41
   have hroom75 : l2.length ≤ c2 := HC2.out
   have hC75 : Kd.C k41 _ A2 l2.length l2 := HR2.out
   have q075 : (0 : Int) ≤ ((ji28) : Int) := of_decide_eq_true (by first | (with_reducible assumption) | assumption)
   have hcut75 := cut_from (P := Try.prog) 23 41 .i64 Try.underlying23 hi075 11 hsz75 A2 l2.length c2 (ji28) q075 q75
   have hr75 := Kd.C_drop (m := ((ji28) : Int).toNat) (c := c2) hC75 (by omega) hroom75
   obtain ⟨A75, hA75⟩ : ∃ A1, A1 = (if c2 = ((ji28) : Int).toNat then A2 else (A2 : Option Addr).map (·.add (((ji28) : Int).toNat * 11))) := ⟨_, rfl⟩
   obtain ⟨c75, hc75⟩ : ∃ c1, c1 = c2 - ((ji28) : Int).toNat := ⟨_, rfl⟩
   have hy75 : y138.length = l2.length - ((ji28) : Int).toNat := (by rw [Ny138.out, List.length_drop] <;> omega)
   rw [show (l2).drop ((ji28) : Int).toNat = y138 from Ny138.out.symm] at hr75
   replace hr75 : Kd.C k41 _ A75 y138.length y138 := (by rw [hA75]; exact hr75)
   rw [← hy75, ← hA75, ← hc75] at hcut75
   have HR141 := Aside0.mk hr75
   have HC141 := Aside0.mk (show y138.length ≤ c75 from by rw [hy75, hc75]; exact Nat.sub_le_sub_right hroom75 _)
   clear hr75 hC75 hroom75 hi075 hsz75 hc75
   have KY75 := Aside0.mk hy75
   have KA75 := Aside0.mk hA75
   clear hy75 hA75
   replace q75 := eq_true q75
   have q76 : ((ji28) : Int) ≤ ((l2.length : Int) : Int) := of_decide_eq_true (by first | (with_reducible assumption) | assumption)
   obtain ⟨i076, hi076, _, hsz76, _⟩ := info_parts info41
   have hroom76 : l2.length ≤ c2 := HC2.out
   have hC76 : Kd.C k41 _ A2 l2.length l2 := HR2.out
   have hcut76 := cut_to (P := Try.prog) 23 41 .i64 Try.underlying23 hi076 A2 l2.length c2 (ji28) (of_decide_eq_true (by first | (with_reducible assumption) | assumption)) q76 hroom76
   have hr76 := Kd.C_take (m := ((ji28) : Int).toNat) hC76 (by omega)
   have hy76 : y145.length = ((ji28) : Int).toNat := (by rw [Ny145.out, List.length_take]; omega)
   rw [← Ny145.out] at hr76
   rw [← hy76] at hcut76
   have HR148 := Aside0.mk hr76
   have HC148 := Aside0.mk (show y145.length ≤ c2 from by omega)
   clear hr76 hC76 hroom76 hi076 hsz76
   have KY76 := Aside0.mk hy76
   clear hy76
   replace q76 := eq_true q76
   refine start_ (n := 17) (S := fun w' => True) (ds := []) #[F_,F_,F_,F_,F_,F_,F_,F_,F_,F_,F_,F_,F_,F_,F_,F_,F_] (by kernel_rfl) rfl rfl trivial (fun hHeld => ?_); refine with_tabW interregnumlaw15_DecideOrder.tab13 interregnumlaw15_DecideOrder.bits13 (fun HT_ HW_ => ?_)
   generalize w73.drew = w74 at HB HR141 HR148 hHeld ⊢
   refine pure_ (i := 0) (N := some 66) (v := ?_) (a' := ?_) #[T_,F_,F_,F_,F_,F_,F_,F_,F_,F_,F_,F_,F_,F_,F_,F_,F_] rfl rfl (any_of HT_.out (by kernel_rfl)) (fun _ _ _ h => h) (Or.inl ⟨by rfl, ?_⟩) ?_ ?_
   rotate_left
   ·intro w'
    go_simp
    with_reducible rfl
   rotate_left
   ·simp only [Act.put, q1_, q2_, q3_, i64_w, i32_w]
    rfl
   refine pure_ (i := 1) (N := some 67) (v := ?_) (a' := ?_) #[T_,T_,F_,F_,F_,F_,F_,F_,F_,F_,F_,F_,F_,F_,F_,F_,F_] rfl rfl (any_of HT_.out (by kernel_rfl)) (fun _ _ _ h => h) (Or.inl ⟨by rfl, ?_⟩) ?_ ?_
   rotate_left
   ·intro w'
    go_simp
    with_reducible rfl
   rotate_left
   ·simp only [Act.put, q1_, q2_, q3_, i64_w, i32_w]
    rfl
   refine pure_ (i := 3) (N := some 69) (v := ?_) (a' := ?_) #[T_,T_,F_,T_,F_,F_,F_,F_,F_,F_,F_,F_,F_,F_,F_,F_,F_] rfl rfl (any_of HT_.out (by kernel_rfl)) (fun _ _ _ h => h) (Or.inl ⟨by rfl, ?_⟩) ?_ ?_
   rotate_left
   ·intro w'
    go_simp
    with_reducible rfl
   rotate_left
   ·simp only [Act.put, q1_, q2_, q3_, i64_w, i32_w]
    rfl
   refine pure_ (i := 4) (N := some 70) (v := ?_) (a' := ?_) #[T_,T_,F_,T_,T_,F_,F_,F_,F_,F_,F_,F_,F_,F_,F_,F_,F_] rfl rfl (any_of HT_.out (by kernel_rfl)) (fun _ _ _ h => h) (Or.inl ⟨by rfl, ?_⟩) ?_ ?_
   rotate_left
   ·intro w'
    go_simp
    with_reducible rfl
   rotate_left
   ·simp only [Act.put, q1_, q2_, q3_, i64_w, i32_w]
    rfl
   refine pure_ (i := 5) (N := some 71) (v := ?_) (a' := ?_) #[T_,T_,F_,T_,T_,T_,F_,F_,F_,F_,F_,F_,F_,F_,F_,F_,F_] rfl rfl (any_of HT_.out (by kernel_rfl)) (fun _ _ _ h => h) (Or.inl ⟨by rfl, ?_⟩) ?_ ?_
   rotate_left
   ·intro w'
    go_simp
    with_reducible rfl
   rotate_left
   ·simp only [Act.put, q1_, q2_, q3_, i64_w, i32_w]
    rfl
   refine pure_ (i := 7) (N := some 73) (v := ?_) (a' := ?_) #[T_,T_,F_,T_,T_,T_,F_,T_,F_,F_,F_,F_,F_,F_,F_,F_,F_] rfl rfl (any_of HT_.out (by kernel_rfl)) (fun _ _ _ h => h) (Or.inl ⟨by rfl, ?_⟩) ?_ ?_
   rotate_left
   ·intro w'
    go_simp
    with_reducible rfl
   rotate_left
   ·simp only [Act.put, q1_, q2_, q3_, i64_w, i32_w]
    rfl
   refine pure_ (i := 8) (N := some 74) (v := ?_) (a' := ?_) #[T_,T_,F_,T_,T_,T_,F_,T_,T_,F_,F_,F_,F_,F_,F_,F_,F_] rfl rfl (any_of HT_.out (by kernel_rfl)) (fun _ _ _ h => h) (Or.inl ⟨by rfl, ?_⟩) ?_ ?_
   rotate_left
   ·intro w'
    go_simp
    with_reducible rfl
   rotate_left
   ·simp only [Act.put, q1_, q2_, q3_, i64_w, i32_w]
    rfl
   refine pure_ (i := 9) (N := some 75) (v := ?_) (a' := ?_) #[T_,T_,F_,T_,T_,T_,F_,T_,T_,T_,F_,F_,F_,F_,F_,F_,F_] rfl rfl (any_of HT_.out (by kernel_rfl)) (fun _ _ _ h => h) (Or.inl ⟨by rfl, ?_⟩) ?_ ?_
   rotate_left
   ·intro w'
    go_simp
    with_reducible rfl
   rotate_left
   ·simp only [Act.put, q1_, q2_, q3_, i64_w, i32_w]
    rfl
   refine one_ (i := 2) (N := some 68) #[T_,T_,T_,T_,T_,T_,F_,T_,T_,T_,F_,F_,F_,F_,F_,F_,F_] rfl rfl (one_of HT_.out (by kernel_rfl)) (by decide) (fun K hK => ?_)
   refine Kd.N_lit_step k41 _ 41 ?hg (N' := 68) ?hd (xs := ([] : List (S41))) (inner := []) (ok := (fun _ => True)) (okp := (fun _ => True)) ?hr ?hp (fun _ hk => hk) ((show ∀ k_, w74.heap.size ≤ k_ → (fun _ => True) k_ from fun k_ hk => trivial) _ (Nat.le_refl _)) (Below.refl _ _) (Nat.le_refl _) (by simp) ?_; (case hd => rfl); (case hg => rfl); (case hr => first | (go_simp; done) | (go_simp; rfl) | (go_simp; simp [IntKind.wrap_u8, IntKind.wrap_u32]; done)); (case hp => exact (Reps.none _ _))
   intro v136 w77 ho78 hb hg_ hnew_
   clear hg_ hnew_
   (first | rw [← Ny135.out] at ho78 | (simp only [Int.reduceToNat] at ho78; rw [← Ny135.out] at ho78))
   have n0_ := Aside0.mk (Kd.N_lower ho78 (below_size (by repeat (first | (with_reducible first | exact HB.out | apply below_alloc | apply pw_below_drewN | apply below_drew1) | exact HB.out))))
   have n1_ := Aside0.mk (below_step (by repeat (first | (with_reducible first | exact HB.out | apply below_alloc | apply pw_below_drewN | apply below_drew1) | exact HB.out)) hb)
   clear HB
   have HO137 := n0_
   have HB := n1_
   clear n0_ n1_
   clear hb ho78
   refine hK.out _ _ trivial (fun hHeld => ?_)
   clear hK K
   refine norm_ (a' := ?_) ?_ ?_
   rotate_left
   ·show Act.put _ (some 68) _ = _
    simp only [Act.put, q1_, q2_, q3_, i64_w, i32_w]
    rfl
   refine one_ (i := 6) (N := some 72) #[T_,T_,T_,T_,T_,T_,T_,T_,T_,T_,F_,F_,F_,F_,F_,F_,F_] rfl rfl (one_of HT_.out (by kernel_rfl)) (by decide) (fun K hK => ?_)
   refine Kd.N_append_rows_step k41 (w0 := w) w.heap.size (by rfl) (.tmp 68) (.tmp 71) 23 41 (.agg #[(.int .u32 0), (.int .i64 0), (.int .i64 0), (.int .i64 0), (.slice none 0 0), (.int .u32 0), (.int .i64 0), (.int .i64 0), (.slice none 0 0), (.slice none 0 0), (.int .i64 0)]) 136 rfl Try.underlying23 info41 rfl (by decide) (by omega) v136 y135 y138 _ _ _ (fun _ => True) (fun k_ => ((fun _ => True)) k_ ∧ some k_ ≠ (v136 : Value).ownBlock) rfl rfl ?aO ?aR (fun _ hk => hk) ?aF ?aB ?aS ?aL ?_
   (case aR => exact (Kd.F_mono (ok' := (fun k_ => ((fun _ => True)) k_ ∧ some k_ ≠ (v136 : Value).ownBlock)) (Kd.F_below (Kd.C_F k41_heap HR141.out) (by repeat (first | (with_reducible first | exact HB.out | apply below_alloc | apply pw_below_drewN | apply below_drew1) | exact HB.out))) (fun k_ hk => ⟨trivial, fun e_ => absurd hk (Nat.not_lt.mpr (Kd.N_base HO137.out k_ e_.symm))⟩)))
   (case aB => exact (by repeat (first | (with_reducible first | exact HB.out | apply below_alloc | apply pw_below_drewN | apply below_drew1) | exact HB.out)))
   (case aF => exact (fun _ _ => trivial))
   (case aO => exact (by (with_reducible repeat (first | apply Kd.N_alloc | apply Kd.N_drewN | apply Kd.N_drew)); exact HO137.out))
   (case aS => exact (below_size (by repeat (first | (with_reducible first | exact HB.out | apply below_alloc | apply pw_below_drewN | apply below_drew1) | exact HB.out))))
   (case aL => have := LMc31.out; omega)
   intro v143 w79 ho hb hg hat
   rw [← Ny142.out] at ho
   have n0_ := Aside0.mk (hb)
   have n1_ := Aside0.mk (ho)
   clear HB
   clear HO137
   have HB := n0_
   have HO144 := n1_
   clear n0_ n1_
   clear ho hb hg hat
   refine hK.out _ _ trivial (fun hHeld => ?_)
   clear hK K
   refine norm_ (a' := ?_) ?_ ?_
   rotate_left
   ·show Act.put _ (some 72) _ = _
    simp only [Act.put, q1_, q2_, q3_, i64_w, i32_w]
    rfl
   refine one_ (i := 10) (N := some 76) #[T_,T_,T_,T_,T_,T_,T_,T_,T_,T_,T_,F_,F_,F_,F_,F_,F_] rfl rfl (one_of HT_.out (by kernel_rfl)) (by decide) (fun K hK => ?_)
   refine Kd.N_append_rows_step k41 (w0 := w) w.heap.size (by rfl) (.tmp 72) (.tmp 75) 23 41 (.agg #[(.int .u32 0), (.int .i64 0), (.int .i64 0), (.int .i64 0), (.slice none 0 0), (.int .u32 0), (.int .i64 0), (.int .i64 0), (.slice none 0 0), (.slice none 0 0), (.int .i64 0)]) 136 rfl Try.underlying23 info41 rfl (by decide) (by omega) v143 y142 y145 _ _ _ (fun _ => True) (fun k_ => ((fun _ => True)) k_ ∧ some k_ ≠ (v143 : Value).ownBlock) rfl rfl ?aO ?aR (fun _ hk => hk) ?aF ?aB ?aS ?aL ?_
   (case aR => exact (Kd.F_mono (ok' := (fun k_ => ((fun _ => True)) k_ ∧ some k_ ≠ (v143 : Value).ownBlock)) (Kd.F_below (Kd.C_F k41_heap HR148.out) (by repeat (first | (with_reducible first | exact HB.out | apply below_alloc | apply pw_below_drewN | apply below_drew1) | exact HB.out))) (fun k_ hk => ⟨trivial, fun e_ => absurd hk (Nat.not_lt.mpr (Kd.N_base HO144.out k_ e_.symm))⟩)))
   (case aB => exact (by repeat (first | (with_reducible first | exact HB.out | apply below_alloc | apply pw_below_drewN | apply below_drew1) | exact HB.out)))
   (case aF => exact (fun _ _ => trivial))
   (case aO => exact (by (with_reducible repeat (first | apply Kd.N_alloc | apply Kd.N_drewN | apply Kd.N_drew)); exact HO144.out))
   (case aS => exact (below_size (by repeat (first | (with_reducible first | exact HB.out | apply below_alloc | apply pw_below_drewN | apply below_drew1) | exact HB.out))))
   (case aL => have := LMc34.out; omega)
   intro v150 w80 ho hb hg hat
   rw [← Ny149.out] at ho
   have n0_ := Aside0.mk (hb)
   have n1_ := Aside0.mk (ho)
   clear HB
   clear HO144
   have HB := n0_
   have HO151 := n1_
   clear n0_ n1_
   clear ho hb hg hat
   obtain ⟨Ao81, co81, eo81⟩ := Kd.N_slice HO151.out
   (first | subst eo81 | (injection eo81 with f1_ f2_ f3_; have f4_ := f1_.symm; have f5_ := f3_.symm; clear f1_ f2_ f3_; subst f4_; subst f5_))
   refine hK.out _ _ trivial (fun hHeld => ?_)
   clear hK K
   refine norm_ (a' := ?_) ?_ ?_
   rotate_left
   ·show Act.put _ (some 76) _ = _
    simp only [Act.put, q1_, q2_, q3_, i64_w, i32_w]
    rfl
   refine one_ (i := 11) (N := some 77) #[T_,T_,T_,T_,T_,T_,T_,T_,T_,T_,T_,T_,F_,F_,F_,F_,F_] rfl rfl (one_of HT_.out (by kernel_rfl)) (by decide) (fun K hK => ?_)
   refine goes_ Try.func10 (by kernel_rfl) rfl #[.int .i64 a0, .slice A1 l1.length c1, .slice Ao81 y149.length co81] (by rfl) rfl rfl (by (try simp only [List.map_toArray, List.map_cons, List.map_nil]); first | done | rfl | (simp only [List.length_drop, List.length_take]; rfl)) ?_
   with_reducible refine (decide_Best.calls a0 _ _ l1 _ _ y149 t152 t153 _ ?side1 ?side2 ?side3 ?side4 A35.out).mono ?_
   (case side1 => repeat (first | exact (Kd.C_below HR1.out HB.out) | (with_reducible refine Kd.C_alloc ?_ _) | (with_reducible refine Kd.C_drewN ?_ _) | (with_reducible refine Kd.C_drew ?_)))
   (case side2 => exact HC1.out)
   (case side3 => repeat (first | exact (Kd.N_reads' HO151.out).2.2 | (with_reducible refine Kd.C_alloc ?_ _) | (with_reducible refine Kd.C_drewN ?_ _) | (with_reducible refine Kd.C_drew ?_)))
   (case side4 => exact (Kd.N_reads' HO151.out).2.1)
   rintro e w82 ⟨rfl, hb⟩
   refine ⟨_, rfl, ?_⟩
   have n0_ := Aside0.mk (Kd.N_below (by (with_reducible repeat (first | apply Kd.N_alloc | apply Kd.N_drewN | apply Kd.N_drew)); exact HO151.out) hb)
   have n1_ := Aside0.mk (below_step (by repeat (first | (with_reducible first | exact HB.out | apply below_alloc | apply pw_below_drewN | apply below_drew1) | exact HB.out)) hb)
   clear HO151
   clear HB
   have HO151 := n0_
   have HB := n1_
   clear n0_ n1_
   (try clear hb)
   (try clear hb2)
   (try clear hk)
   (try clear hi)
   refine hK.out _ _ trivial (fun hHeld => ?_)
   clear hK K
   refine norm_ (a' := ?_) ?_ ?_
   rotate_left
   ·show Act.put _ (some 77) _ = _
    simp only [Act.put, q1_, q2_, q3_, i64_w, i32_w]
    rfl
   refine pure_ (i := 12) (N := some 65) (v := ?_) (a' := ?_) #[T_,T_,T_,T_,T_,T_,T_,T_,T_,T_,T_,T_,T_,F_,F_,F_,F_] rfl rfl (any_of HT_.out (by kernel_rfl)) (fun _ _ _ h => h) (Or.inl ⟨by rfl, ?_⟩) ?_ ?_
   rotate_left
   ·intro w'
    go_simp
    with_reducible rfl
   rotate_left
   ·simp only [Act.put, q1_, q2_, q3_, i64_w, i32_w]
    rfl
   refine pure_ (i := 13) (N := some 78) (v := ?_) (a' := ?_) #[T_,T_,T_,T_,T_,T_,T_,T_,T_,T_,T_,T_,T_,T_,F_,F_,F_] rfl rfl (any_of HT_.out (by kernel_rfl)) (fun _ _ _ h => h) (Or.inl ⟨by rfl, ?_⟩) ?_ ?_
   rotate_left
   ·intro w'
    go_simp
    with_reducible rfl
   rotate_left
   ·simp only [Act.put, q1_, q2_, q3_, i64_w, i32_w]
    rfl
   refine pure_ (i := 14) (N := some 79) (v := ?_) (a' := ?_) #[T_,T_,T_,T_,T_,T_,T_,T_,T_,T_,T_,T_,T_,T_,T_,F_,F_] rfl rfl (any_of HT_.out (by kernel_rfl)) (fun _ _ _ h => h) (Or.inl ⟨by rfl, ?_⟩) ?_ ?_
   rotate_left
   ·intro w'
    go_simp
    with_reducible rfl
   rotate_left
   ·simp only [Act.put, q1_, q2_, q3_, i64_w, i32_w]
    rfl
   refine pure_ (i := 15) (N := some 14) (v := ?_) (a' := ?_) #[T_,T_,T_,T_,T_,T_,T_,T_,T_,T_,T_,T_,T_,T_,T_,T_,F_] rfl rfl (any_of HT_.out (by kernel_rfl)) (fun _ _ _ h => h) (Or.inl ⟨by rfl, ?_⟩) ?_ ?_
   rotate_left
   ·intro w'
    go_simp
    with_reducible rfl
   rotate_left
   ·simp only [Act.put, q1_, q2_, q3_, i64_w, i32_w]
    rfl
   refine pure_ (i := 16) (N := some 15) (v := ?_) (a' := ?_) #[T_,T_,T_,T_,T_,T_,T_,T_,T_,T_,T_,T_,T_,T_,T_,T_,T_] rfl rfl (any_of HT_.out (by kernel_rfl)) (fun _ _ _ h => h) (Or.inl ⟨by rfl, ?_⟩) ?_ ?_
   rotate_left
   ·intro w'
    go_simp
    with_reducible rfl
   rotate_left
   ·simp only [Act.put, q1_, q2_, q3_, i64_w, i32_w]
    rfl
   refine done_ (done_of HT_.out (by kernel_rfl)) ?_
   try go_wp2_with (first | ((with_reducible refine gate_callee (f := 9) rfl ?_); refine goesL_ (some 80) rfl rfl Try.func9 (by kernel_rfl) rfl #[] rfl (by (try simp only [List.map_toArray, List.map_cons, List.map_nil]); first | done | rfl | (simp only [List.length_drop, List.length_take]; rfl)) ?_; (with_reducible refine (interregnumlaw15_answers.calls  false _ A36.out).mono ?_); rintro e w83 ⟨rfl, hb⟩; refine ⟨_, rfl, ?_⟩; have n0_ := Aside0.mk (Kd.N_below (by (with_reducible repeat (first | apply Kd.N_alloc | apply Kd.N_drewN | apply Kd.N_drew)); exact HO151.out) hb); have n1_ := Aside0.mk (below_step (by repeat (first | (with_reducible first | exact HB.out | apply below_alloc | apply pw_below_drewN | apply below_drew1) | exact HB.out)) hb); clear HO151; clear HB; have HO151 := n0_; have HB := n1_; clear n0_ n1_; (try clear hb); (try clear hb2); (try clear hk); (try clear hi)))
   go_ret
   exact ⟨by first | rfl | (simp [errW_none, errW_some] <;> rfl) | (simp only [← hji28]; first | rfl | (simp [errW_none, errW_some] <;> rfl)) | (simp [*, errW_none, errW_some] <;> rfl), by repeat (first | (with_reducible first | exact HB.out | apply below_alloc | apply pw_below_drewN | apply below_drew1) | exact HB.out)⟩
  subst c37
  have H1 : (if (t134 == t153) = true then (if t134 = true then (some (t133 == (Int.tmod (wrap64 (t152 + (ji28))) (l2.length : Int)))) else (some true)) else (some false)) = some r := by rw [if_pos rfl] at H; exact H
  clear H
  have H := H1
  clear H1
  by_cases c38 : (t134 == t153) = true
  rotate_left
  ·rw [if_neg c38] at H
   have c38b0 : (t134 == t153) = false := by simpa using c38
   (try (have c38b1 : decide (t134 = t153) = false := by simpa using c38))
   (try (have c38b2 : (t134 == t153) = false := by simpa using c38))
   (try (have c38b3 : ¬ (t134 = t153) := by simpa using c38))
   clear c38
   obtain rfl := Option.some.inj H
   try go_wp2_with (first | ((with_reducible refine gate_callee (f := 10) rfl ?_); refine goesL_ (some 62) rfl rfl Try.func10 (by kernel_rfl) rfl #[.int .i64 a0, .slice A1 l1.length c1, .slice A2 l2.length c2] rfl (by (try simp only [List.map_toArray, List.map_cons, List.map_nil]); first | done | rfl | (simp only [List.length_drop, List.length_take]; rfl)) ?_; (with_reducible refine (decide_Best.calls a0 _ _ l1 _ _ l2 t133 t134 _ ?side1 ?side2 ?side3 ?side4 A27.out).mono ?_); (case side1 => repeat (first | exact (Kd.C_below HR1.out HB.out) | (with_reducible refine Kd.C_alloc ?_ _) | (with_reducible refine Kd.C_drewN ?_ _) | (with_reducible refine Kd.C_drew ?_))); (case side2 => exact HC1.out); (case side3 => repeat (first | exact (Kd.C_below HR2.out HB.out) | (with_reducible refine Kd.C_alloc ?_ _) | (with_reducible refine Kd.C_drewN ?_ _) | (with_reducible refine Kd.C_drew ?_))); (case side4 => exact HC2.out); rintro e w62 ⟨rfl, hb⟩; refine ⟨_, rfl, ?_⟩; have n0_ := Aside0.mk (below_step (by repeat (first | (with_reducible first | exact HB.out | apply below_alloc | apply pw_below_drewN | apply below_drew1) | exact HB.out)) hb); clear HB; have HB := n0_; clear n0_; (try clear hb); (try clear hb2); (try clear hk); (try clear hi)))
   have n0_ := Aside0.mk (below_drew1 HB.out)
   clear HB
   have HB := n0_
   clear n0_
   have q64 : ((ji28) : Int) ≤ ((l2.length : Int) : Int) := of_decide_eq_true (by first | (with_reducible assumption) | assumption)
   obtain ⟨i064, hi064, _, hsz64, _⟩ := info_parts info41
   have hroom64 : l2.length ≤ c2 := HC2.out
   have hC64 : Kd.C k41 _ A2 l2.length l2 := HR2.out
   have q064 : (0 : Int) ≤ ((ji28) : Int) := of_decide_eq_true (by first | (with_reducible assumption) | assumption)
   have hcut64 := cut_from (P := Try.prog) 23 41 .i64 Try.underlying23 hi064 11 hsz64 A2 l2.length c2 (ji28) q064 q64
   have hr64 := Kd.C_drop (m := ((ji28) : Int).toNat) (c := c2) hC64 (by omega) hroom64
   obtain ⟨A64, hA64⟩ : ∃ A1, A1 = (if c2 = ((ji28) : Int).toNat then A2 else (A2 : Option Addr).map (·.add (((ji28) : Int).toNat * 11))) := ⟨_, rfl⟩
   obtain ⟨c64, hc64⟩ : ∃ c1, c1 = c2 - ((ji28) : Int).toNat := ⟨_, rfl⟩
   have hy64 : y138.length = l2.length - ((ji28) : Int).toNat := (by rw [Ny138.out, List.length_drop] <;> omega)
   rw [show (l2).drop ((ji28) : Int).toNat = y138 from Ny138.out.symm] at hr64
   replace hr64 : Kd.C k41 _ A64 y138.length y138 := (by rw [hA64]; exact hr64)
   rw [← hy64, ← hA64, ← hc64] at hcut64
   have HR141 := Aside0.mk hr64
   have HC141 := Aside0.mk (show y138.length ≤ c64 from by rw [hy64, hc64]; exact Nat.sub_le_sub_right hroom64 _)
   clear hr64 hC64 hroom64 hi064 hsz64 hc64
   have KY64 := Aside0.mk hy64
   have KA64 := Aside0.mk hA64
   clear hy64 hA64
   replace q64 := eq_true q64
   have q65 : ((ji28) : Int) ≤ ((l2.length : Int) : Int) := of_decide_eq_true (by first | (with_reducible assumption) | assumption)
   obtain ⟨i065, hi065, _, hsz65, _⟩ := info_parts info41
   have hroom65 : l2.length ≤ c2 := HC2.out
   have hC65 : Kd.C k41 _ A2 l2.length l2 := HR2.out
   have hcut65 := cut_to (P := Try.prog) 23 41 .i64 Try.underlying23 hi065 A2 l2.length c2 (ji28) (of_decide_eq_true (by first | (with_reducible assumption) | assumption)) q65 hroom65
   have hr65 := Kd.C_take (m := ((ji28) : Int).toNat) hC65 (by omega)
   have hy65 : y145.length = ((ji28) : Int).toNat := (by rw [Ny145.out, List.length_take]; omega)
   rw [← Ny145.out] at hr65
   rw [← hy65] at hcut65
   have HR148 := Aside0.mk hr65
   have HC148 := Aside0.mk (show y145.length ≤ c2 from by omega)
   clear hr65 hC65 hroom65 hi065 hsz65
   have KY65 := Aside0.mk hy65
   clear hy65
   replace q65 := eq_true q65
   refine start_ (n := 17) (S := fun w' => True) (ds := []) #[F_,F_,F_,F_,F_,F_,F_,F_,F_,F_,F_,F_,F_,F_,F_,F_,F_] (by kernel_rfl) rfl rfl trivial (fun hHeld => ?_); refine with_tabW interregnumlaw15_DecideOrder.tab13 interregnumlaw15_DecideOrder.bits13 (fun HT_ HW_ => ?_)
   generalize w62.drew = w63 at HB HR141 HR148 hHeld ⊢
   refine pure_ (i := 0) (N := some 66) (v := ?_) (a' := ?_) #[T_,F_,F_,F_,F_,F_,F_,F_,F_,F_,F_,F_,F_,F_,F_,F_,F_] rfl rfl (any_of HT_.out (by kernel_rfl)) (fun _ _ _ h => h) (Or.inl ⟨by rfl, ?_⟩) ?_ ?_
   rotate_left
   ·intro w'
    go_simp
    with_reducible rfl
   rotate_left
   ·simp only [Act.put, q1_, q2_, q3_, i64_w, i32_w]
    rfl
   refine pure_ (i := 1) (N := some 67) (v := ?_) (a' := ?_) #[T_,T_,F_,F_,F_,F_,F_,F_,F_,F_,F_,F_,F_,F_,F_,F_,F_] rfl rfl (any_of HT_.out (by kernel_rfl)) (fun _ _ _ h => h) (Or.inl ⟨by rfl, ?_⟩) ?_ ?_
   rotate_left
   ·intro w'
    go_simp
    with_reducible rfl
   rotate_left
   ·simp only [Act.put, q1_, q2_, q3_, i64_w, i32_w]
    rfl
   refine pure_ (i := 3) (N := some 69) (v := ?_) (a' := ?_) #[T_,T_,F_,T_,F_,F_,F_,F_,F_,F_,F_,F_,F_,F_,F_,F_,F_] rfl rfl (any_of HT_.out (by kernel_rfl)) (fun _ _ _ h => h) (Or.inl ⟨by rfl, ?_⟩) ?_ ?_
   rotate_left
   ·intro w'
    go_simp
    with_reducible rfl
   rotate_left
   ·simp only [Act.put, q1_, q2_, q3_, i64_w, i32_w]
    rfl
   refine pure_ (i := 4) (N := some 70) (v := ?_) (a' := ?_) #[T_,T_,F_,T_,T_,F_,F_,F_,F_,F_,F_,F_,F_,F_,F_,F_,F_] rfl rfl (any_of HT_.out (by kernel_rfl)) (fun _ _ _ h => h) (Or.inl ⟨by rfl, ?_⟩) ?_ ?_
   rotate_left
   ·intro w'
    go_simp
    with_reducible rfl
   rotate_left
   ·simp only [Act.put, q1_, q2_, q3_, i64_w, i32_w]
    rfl
   refine pure_ (i := 5) (N := some 71) (v := ?_) (a' := ?_) #[T_,T_,F_,T_,T_,T_,F_,F_,F_,F_,F_,F_,F_,F_,F_,F_,F_] rfl rfl (any_of HT_.out (by kernel_rfl)) (fun _ _ _ h => h) (Or.inl ⟨by rfl, ?_⟩) ?_ ?_
   rotate_left
   ·intro w'
    go_simp
    with_reducible rfl
   rotate_left
   ·simp only [Act.put, q1_, q2_, q3_, i64_w, i32_w]
    rfl
   refine pure_ (i := 7) (N := some 73) (v := ?_) (a' := ?_) #[T_,T_,F_,T_,T_,T_,F_,T_,F_,F_,F_,F_,F_,F_,F_,F_,F_] rfl rfl (any_of HT_.out (by kernel_rfl)) (fun _ _ _ h => h) (Or.inl ⟨by rfl, ?_⟩) ?_ ?_
   rotate_left
   ·intro w'
    go_simp
    with_reducible rfl
   rotate_left
   ·simp only [Act.put, q1_, q2_, q3_, i64_w, i32_w]
    rfl
   refine pure_ (i := 8) (N := some 74) (v := ?_) (a' := ?_) #[T_,T_,F_,T_,T_,T_,F_,T_,T_,F_,F_,F_,F_,F_,F_,F_,F_] rfl rfl (any_of HT_.out (by kernel_rfl)) (fun _ _ _ h => h) (Or.inl ⟨by rfl, ?_⟩) ?_ ?_
   rotate_left
   ·intro w'
    go_simp
    with_reducible rfl
   rotate_left
   ·simp only [Act.put, q1_, q2_, q3_, i64_w, i32_w]
    rfl
   refine pure_ (i := 9) (N := some 75) (v := ?_) (a' := ?_) #[T_,T_,F_,T_,T_,T_,F_,T_,T_,T_,F_,F_,F_,F_,F_,F_,F_] rfl rfl (any_of HT_.out (by kernel_rfl)) (fun _ _ _ h => h) (Or.inl ⟨by rfl, ?_⟩) ?_ ?_
   rotate_left
   ·intro w'
    go_simp
    with_reducible rfl
   rotate_left
   ·simp only [Act.put, q1_, q2_, q3_, i64_w, i32_w]
    rfl
   refine one_ (i := 2) (N := some 68) #[T_,T_,T_,T_,T_,T_,F_,T_,T_,T_,F_,F_,F_,F_,F_,F_,F_] rfl rfl (one_of HT_.out (by kernel_rfl)) (by decide) (fun K hK => ?_)
   refine Kd.N_lit_step k41 _ 41 ?hg (N' := 68) ?hd (xs := ([] : List (S41))) (inner := []) (ok := (fun _ => True)) (okp := (fun _ => True)) ?hr ?hp (fun _ hk => hk) ((show ∀ k_, w63.heap.size ≤ k_ → (fun _ => True) k_ from fun k_ hk => trivial) _ (Nat.le_refl _)) (Below.refl _ _) (Nat.le_refl _) (by simp) ?_; (case hd => rfl); (case hg => rfl); (case hr => first | (go_simp; done) | (go_simp; rfl) | (go_simp; simp [IntKind.wrap_u8, IntKind.wrap_u32]; done)); (case hp => exact (Reps.none _ _))
   intro v136 w66 ho67 hb hg_ hnew_
   clear hg_ hnew_
   (first | rw [← Ny135.out] at ho67 | (simp only [Int.reduceToNat] at ho67; rw [← Ny135.out] at ho67))
   have n0_ := Aside0.mk (Kd.N_lower ho67 (below_size (by repeat (first | (with_reducible first | exact HB.out | apply below_alloc | apply pw_below_drewN | apply below_drew1) | exact HB.out))))
   have n1_ := Aside0.mk (below_step (by repeat (first | (with_reducible first | exact HB.out | apply below_alloc | apply pw_below_drewN | apply below_drew1) | exact HB.out)) hb)
   clear HB
   have HO137 := n0_
   have HB := n1_
   clear n0_ n1_
   clear hb ho67
   refine hK.out _ _ trivial (fun hHeld => ?_)
   clear hK K
   refine norm_ (a' := ?_) ?_ ?_
   rotate_left
   ·show Act.put _ (some 68) _ = _
    simp only [Act.put, q1_, q2_, q3_, i64_w, i32_w]
    rfl
   refine one_ (i := 6) (N := some 72) #[T_,T_,T_,T_,T_,T_,T_,T_,T_,T_,F_,F_,F_,F_,F_,F_,F_] rfl rfl (one_of HT_.out (by kernel_rfl)) (by decide) (fun K hK => ?_)
   refine Kd.N_append_rows_step k41 (w0 := w) w.heap.size (by rfl) (.tmp 68) (.tmp 71) 23 41 (.agg #[(.int .u32 0), (.int .i64 0), (.int .i64 0), (.int .i64 0), (.slice none 0 0), (.int .u32 0), (.int .i64 0), (.int .i64 0), (.slice none 0 0), (.slice none 0 0), (.int .i64 0)]) 136 rfl Try.underlying23 info41 rfl (by decide) (by omega) v136 y135 y138 _ _ _ (fun _ => True) (fun k_ => ((fun _ => True)) k_ ∧ some k_ ≠ (v136 : Value).ownBlock) rfl rfl ?aO ?aR (fun _ hk => hk) ?aF ?aB ?aS ?aL ?_
   (case aR => exact (Kd.F_mono (ok' := (fun k_ => ((fun _ => True)) k_ ∧ some k_ ≠ (v136 : Value).ownBlock)) (Kd.F_below (Kd.C_F k41_heap HR141.out) (by repeat (first | (with_reducible first | exact HB.out | apply below_alloc | apply pw_below_drewN | apply below_drew1) | exact HB.out))) (fun k_ hk => ⟨trivial, fun e_ => absurd hk (Nat.not_lt.mpr (Kd.N_base HO137.out k_ e_.symm))⟩)))
   (case aB => exact (by repeat (first | (with_reducible first | exact HB.out | apply below_alloc | apply pw_below_drewN | apply below_drew1) | exact HB.out)))
   (case aF => exact (fun _ _ => trivial))
   (case aO => exact (by (with_reducible repeat (first | apply Kd.N_alloc | apply Kd.N_drewN | apply Kd.N_drew)); exact HO137.out))
   (case aS => exact (below_size (by repeat (first | (with_reducible first | exact HB.out | apply below_alloc | apply pw_below_drewN | apply below_drew1) | exact HB.out))))
   (case aL => have := LMc31.out; omega)
   intro v143 w68 ho hb hg hat
   rw [← Ny142.out] at ho
   have n0_ := Aside0.mk (hb)
   have n1_ := Aside0.mk (ho)
   clear HB
   clear HO137
   have HB := n0_
   have HO144 := n1_
   clear n0_ n1_
   clear ho hb hg hat
   refine hK.out _ _ trivial (fun hHeld => ?_)
   clear hK K
   refine norm_ (a' := ?_) ?_ ?_
   rotate_left
   ·show Act.put _ (some 72) _ = _
    simp only [Act.put, q1_, q2_, q3_, i64_w, i32_w]
    rfl
   refine one_ (i := 10) (N := some 76) #[T_,T_,T_,T_,T_,T_,T_,T_,T_,T_,T_,F_,F_,F_,F_,F_,F_] rfl rfl (one_of HT_.out (by kernel_rfl)) (by decide) (fun K hK => ?_)
   refine Kd.N_append_rows_step k41 (w0 := w) w.heap.size (by rfl) (.tmp 72) (.tmp 75) 23 41 (.agg #[(.int .u32 0), (.int .i64 0), (.int .i64 0), (.int .i64 0), (.slice none 0 0), (.int .u32 0), (.int .i64 0), (.int .i64 0), (.slice none 0 0), (.slice none 0 0), (.int .i64 0)]) 136 rfl Try.underlying23 info41 rfl (by decide) (by omega) v143 y142 y145 _ _ _ (fun _ => True) (fun k_ => ((fun _ => True)) k_ ∧ some k_ ≠ (v143 : Value).ownBlock) rfl rfl ?aO ?aR (fun _ hk => hk) ?aF ?aB ?aS ?aL ?_
   (case aR => exact (Kd.F_mono (ok' := (fun k_ => ((fun _ => True)) k_ ∧ some k_ ≠ (v143 : Value).ownBlock)) (Kd.F_below (Kd.C_F k41_heap HR148.out) (by repeat (first | (with_reducible first | exact HB.out | apply below_alloc | apply pw_below_drewN | apply below_drew1) | exact HB.out))) (fun k_ hk => ⟨trivial, fun e_ => absurd hk (Nat.not_lt.mpr (Kd.N_base HO144.out k_ e_.symm))⟩)))
   (case aB => exact (by repeat (first | (with_reducible first | exact HB.out | apply below_alloc | apply pw_below_drewN | apply below_drew1) | exact HB.out)))
   (case aF => exact (fun _ _ => trivial))
   (case aO => exact (by (with_reducible repeat (first | apply Kd.N_alloc | apply Kd.N_drewN | apply Kd.N_drew)); exact HO144.out))
   (case aS => exact (below_size (by repeat (first | (with_reducible first | exact HB.out | apply below_alloc | apply pw_below_drewN | apply below_drew1) | exact HB.out))))
   (case aL => have := LMc34.out; omega)
   intro v150 w69 ho hb hg hat
   rw [← Ny149.out] at ho
   have n0_ := Aside0.mk (hb)
   have n1_ := Aside0.mk (ho)
   clear HB
   clear HO144
   have HB := n0_
   have HO151 := n1_
   clear n0_ n1_
   clear ho hb hg hat
   obtain ⟨Ao70, co70, eo70⟩ := Kd.N_slice HO151.out
   (first | subst eo70 | (injection eo70 with f1_ f2_ f3_; have f4_ := f1_.symm; have f5_ := f3_.symm; clear f1_ f2_ f3_; subst f4_; subst f5_))
   refine hK.out _ _ trivial (fun hHeld => ?_)
   clear hK K
   refine norm_ (a' := ?_) ?_ ?_
   rotate_left
   ·show Act.put _ (some 76) _ = _
    simp only [Act.put, q1_, q2_, q3_, i64_w, i32_w]
    rfl
   refine one_ (i := 11) (N := some 77) #[T_,T_,T_,T_,T_,T_,T_,T_,T_,T_,T_,T_,F_,F_,F_,F_,F_] rfl rfl (one_of HT_.out (by kernel_rfl)) (by decide) (fun K hK => ?_)
   refine goes_ Try.func10 (by kernel_rfl) rfl #[.int .i64 a0, .slice A1 l1.length c1, .slice Ao70 y149.length co70] (by rfl) rfl rfl (by (try simp only [List.map_toArray, List.map_cons, List.map_nil]); first | done | rfl | (simp only [List.length_drop, List.length_take]; rfl)) ?_
   with_reducible refine (decide_Best.calls a0 _ _ l1 _ _ y149 t152 t153 _ ?side1 ?side2 ?side3 ?side4 A35.out).mono ?_
   (case side1 => repeat (first | exact (Kd.C_below HR1.out HB.out) | (with_reducible refine Kd.C_alloc ?_ _) | (with_reducible refine Kd.C_drewN ?_ _) | (with_reducible refine Kd.C_drew ?_)))
   (case side2 => exact HC1.out)
   (case side3 => repeat (first | exact (Kd.N_reads' HO151.out).2.2 | (with_reducible refine Kd.C_alloc ?_ _) | (with_reducible refine Kd.C_drewN ?_ _) | (with_reducible refine Kd.C_drew ?_)))
   (case side4 => exact (Kd.N_reads' HO151.out).2.1)
   rintro e w71 ⟨rfl, hb⟩
   refine ⟨_, rfl, ?_⟩
   have n0_ := Aside0.mk (Kd.N_below (by (with_reducible repeat (first | apply Kd.N_alloc | apply Kd.N_drewN | apply Kd.N_drew)); exact HO151.out) hb)
   have n1_ := Aside0.mk (below_step (by repeat (first | (with_reducible first | exact HB.out | apply below_alloc | apply pw_below_drewN | apply below_drew1) | exact HB.out)) hb)
   clear HO151
   clear HB
   have HO151 := n0_
   have HB := n1_
   clear n0_ n1_
   (try clear hb)
   (try clear hb2)
   (try clear hk)
   (try clear hi)
   refine hK.out _ _ trivial (fun hHeld => ?_)
   clear hK K
   refine norm_ (a' := ?_) ?_ ?_
   rotate_left
   ·show Act.put _ (some 77) _ = _
    simp only [Act.put, q1_, q2_, q3_, i64_w, i32_w]
    rfl
   refine pure_ (i := 12) (N := some 65) (v := ?_) (a' := ?_) #[T_,T_,T_,T_,T_,T_,T_,T_,T_,T_,T_,T_,T_,F_,F_,F_,F_] rfl rfl (any_of HT_.out (by kernel_rfl)) (fun _ _ _ h => h) (Or.inl ⟨by rfl, ?_⟩) ?_ ?_
   rotate_left
   ·intro w'
    go_simp
    with_reducible rfl
   rotate_left
   ·simp only [Act.put, q1_, q2_, q3_, i64_w, i32_w]
    rfl
   refine pure_ (i := 13) (N := some 78) (v := ?_) (a' := ?_) #[T_,T_,T_,T_,T_,T_,T_,T_,T_,T_,T_,T_,T_,T_,F_,F_,F_] rfl rfl (any_of HT_.out (by kernel_rfl)) (fun _ _ _ h => h) (Or.inl ⟨by rfl, ?_⟩) ?_ ?_
   rotate_left
   ·intro w'
    go_simp
    with_reducible rfl
   rotate_left
   ·simp only [Act.put, q1_, q2_, q3_, i64_w, i32_w]
    rfl
   refine pure_ (i := 14) (N := some 79) (v := ?_) (a' := ?_) #[T_,T_,T_,T_,T_,T_,T_,T_,T_,T_,T_,T_,T_,T_,T_,F_,F_] rfl rfl (any_of HT_.out (by kernel_rfl)) (fun _ _ _ h => h) (Or.inl ⟨by rfl, ?_⟩) ?_ ?_
   rotate_left
   ·intro w'
    go_simp
    with_reducible rfl
   rotate_left
   ·simp only [Act.put, q1_, q2_, q3_, i64_w, i32_w]
    rfl
   refine pure_ (i := 15) (N := some 14) (v := ?_) (a' := ?_) #[T_,T_,T_,T_,T_,T_,T_,T_,T_,T_,T_,T_,T_,T_,T_,T_,F_] rfl rfl (any_of HT_.out (by kernel_rfl)) (fun _ _ _ h => h) (Or.inl ⟨by rfl, ?_⟩) ?_ ?_
   rotate_left
   ·intro w'
    go_simp
    with_reducible rfl
   rotate_left
   ·simp only [Act.put, q1_, q2_, q3_, i64_w, i32_w]
    rfl
   refine pure_ (i := 16) (N := some 15) (v := ?_) (a' := ?_) #[T_,T_,T_,T_,T_,T_,T_,T_,T_,T_,T_,T_,T_,T_,T_,T_,T_] rfl rfl (any_of HT_.out (by kernel_rfl)) (fun _ _ _ h => h) (Or.inl ⟨by rfl, ?_⟩) ?_ ?_
   rotate_left
   ·intro w'
    go_simp
    with_reducible rfl
   rotate_left
   ·simp only [Act.put, q1_, q2_, q3_, i64_w, i32_w]
    rfl
   refine done_ (done_of HT_.out (by kernel_rfl)) ?_
   try go_wp2_with (first | ((with_reducible refine gate_callee (f := 9) rfl ?_); refine goesL_ (some 80) rfl rfl Try.func9 (by kernel_rfl) rfl #[] rfl (by (try simp only [List.map_toArray, List.map_cons, List.map_nil]); first | done | rfl | (simp only [List.length_drop, List.length_take]; rfl)) ?_; (with_reducible refine (interregnumlaw15_answers.calls  true _ A36.out).mono ?_); rintro e w72 ⟨rfl, hb⟩; refine ⟨_, rfl, ?_⟩; have n0_ := Aside0.mk (Kd.N_below (by (with_reducible repeat (first | apply Kd.N_alloc | apply Kd.N_drewN | apply Kd.N_drew)); exact HO151.out) hb); have n1_ := Aside0.mk (below_step (by repeat (first | (with_reducible first | exact HB.out | apply below_alloc | apply pw_below_drewN | apply below_drew1) | exact HB.out)) hb); clear HO151; clear HB; have HO151 := n0_; have HB := n1_; clear n0_ n1_; (try clear hb); (try clear hb2); (try clear hk); (try clear hi)))
   go_ret
   exact ⟨by first | rfl | (simp [errW_none, errW_some] <;> rfl) | (simp only [← hji28]; first | rfl | (simp [errW_none, errW_some] <;> rfl)) | (simp [*, errW_none, errW_some] <;> rfl), by repeat (first | (with_reducible first | exact HB.out | apply below_alloc | apply pw_below_drewN | apply below_drew1) | exact HB.out)⟩
  rw [if_pos c38] at H
  have c38b0 : (t134 == t153) = true := c38
  (try (have c38b1 : decide (t134 = t153) = true := by simpa using c38))
  (try (have c38b2 : (t134 == t153) = true := by simpa using c38))
  clear c38
  by_cases c39 : t134 = true
  ·subst c39
   have H1 : (some (t133 == (Int.tmod (wrap64 (t152 + (ji28))) (l2.length : Int)))) = some r := by rw [if_pos rfl] at H; exact H
   clear H
   have H := H1
   clear H1
   obtain rfl := Option.some.inj H
   try go_wp2_with (first | ((with_reducible refine gate_callee (f := 10) rfl ?_); refine goesL_ (some 62) rfl rfl Try.func10 (by kernel_rfl) rfl #[.int .i64 a0, .slice A1 l1.length c1, .slice A2 l2.length c2] rfl (by (try simp only [List.map_toArray, List.map_cons, List.map_nil]); first | done | rfl | (simp only [List.length_drop, List.length_take]; rfl)) ?_; (with_reducible refine (decide_Best.calls a0 _ _ l1 _ _ l2 t133 true _ ?side1 ?side2 ?side3 ?side4 A27.out).mono ?_); (case side1 => repeat (first | exact (Kd.C_below HR1.out HB.out) | (with_reducible refine Kd.C_alloc ?_ _) | (with_reducible refine Kd.C_drewN ?_ _) | (with_reducible refine Kd.C_drew ?_))); (case side2 => exact HC1.out); (case side3 => repeat (first | exact (Kd.C_below HR2.out HB.out) | (with_reducible refine Kd.C_alloc ?_ _) | (with_reducible refine Kd.C_drewN ?_ _) | (with_reducible refine Kd.C_drew ?_))); (case side4 => exact HC2.out); rintro e w40 ⟨rfl, hb⟩; refine ⟨_, rfl, ?_⟩; have n0_ := Aside0.mk (below_step (by repeat (first | (with_reducible first | exact HB.out | apply below_alloc | apply pw_below_drewN | apply below_drew1) | exact HB.out)) hb); clear HB; have HB := n0_; clear n0_; (try clear hb); (try clear hb2); (try clear hk); (try clear hi)))
   have n0_ := Aside0.mk (below_drew1 HB.out)
   clear HB
   have HB := n0_
   clear n0_
   have q42 : ((ji28) : Int) ≤ ((l2.length : Int) : Int) := of_decide_eq_true (by first | (with_reducible assumption) | assumption)
   obtain ⟨i042, hi042, _, hsz42, _⟩ := info_parts info41
   have hroom42 : l2.length ≤ c2 := HC2.out
   have hC42 : Kd.C k41 _ A2 l2.length l2 := HR2.out
   have q042 : (0 : Int) ≤ ((ji28) : Int) := of_decide_eq_true (by first | (with_reducible assumption) | assumption)
   have hcut42 := cut_from (P := Try.prog) 23 41 .i64 Try.underlying23 hi042 11 hsz42 A2 l2.length c2 (ji28) q042 q42
   have hr42 := Kd.C_drop (m := ((ji28) : Int).toNat) (c := c2) hC42 (by omega) hroom42
   obtain ⟨A42, hA42⟩ : ∃ A1, A1 = (if c2 = ((ji28) : Int).toNat then A2 else (A2 : Option Addr).map (·.add (((ji28) : Int).toNat * 11))) := ⟨_, rfl⟩
   obtain ⟨c42, hc42⟩ : ∃ c1, c1 = c2 - ((ji28) : Int).toNat := ⟨_, rfl⟩
   have hy42 : y138.length = l2.length - ((ji28) : Int).toNat := (by rw [Ny138.out, List.length_drop] <;> omega)
   rw [show (l2).drop ((ji28) : Int).toNat = y138 from Ny138.out.symm] at hr42
   replace hr42 : Kd.C k41 _ A42 y138.length y138 := (by rw [hA42]; exact hr42)
   rw [← hy42, ← hA42, ← hc42] at hcut42
   have HR141 := Aside0.mk hr42
   have HC141 := Aside0.mk (show y138.length ≤ c42 from by rw [hy42, hc42]; exact Nat.sub_le_sub_right hroom42 _)
   clear hr42 hC42 hroom42 hi042 hsz42 hc42
   have KY42 := Aside0.mk hy42
   have KA42 := Aside0.mk hA42
   clear hy42 hA42
   replace q42 := eq_true q42
   have q43 : ((ji28) : Int) ≤ ((l2.length : Int) : Int) := of_decide_eq_true (by first | (with_reducible assumption) | assumption)
   obtain ⟨i043, hi043, _, hsz43, _⟩ := info_parts info41
   have hroom43 : l2.length ≤ c2 := HC2.out
   have hC43 : Kd.C k41 _ A2 l2.length l2 := HR2.out
   have hcut43 := cut_to (P := Try.prog) 23 41 .i64 Try.underlying23 hi043 A2 l2.length c2 (ji28) (of_decide_eq_true (by first | (with_reducible assumption) | assumption)) q43 hroom43
   have hr43 := Kd.C_take (m := ((ji28) : Int).toNat) hC43 (by omega)
   have hy43 : y145.length = ((ji28) : Int).toNat := (by rw [Ny145.out, List.length_take]; omega)
   rw [← Ny145.out] at hr43
   rw [← hy43] at hcut43
   have HR148 := Aside0.mk hr43
   have HC148 := Aside0.mk (show y145.length ≤ c2 from by omega)
   clear hr43 hC43 hroom43 hi043 hsz43
   have KY43 := Aside0.mk hy43
   clear hy43
   replace q43 := eq_true q43
   refine start_ (n := 17) (S := fun w' => True) (ds := []) #[F_,F_,F_,F_,F_,F_,F_,F_,F_,F_,F_,F_,F_,F_,F_,F_,F_] (by kernel_rfl) rfl rfl trivial (fun hHeld => ?_); refine with_tabW interregnumlaw15_DecideOrder.tab13 interregnumlaw15_DecideOrder.bits13 (fun HT_ HW_ => ?_)
   generalize w40.drew = w41 at HB HR141 HR148 hHeld ⊢
   refine pure_ (i := 0) (N := some 66) (v := ?_) (a' := ?_) #[T_,F_,F_,F_,F_,F_,F_,F_,F_,F_,F_,F_,F_,F_,F_,F_,F_] rfl rfl (any_of HT_.out (by kernel_rfl)) (fun _ _ _ h => h) (Or.inl ⟨by rfl, ?_⟩) ?_ ?_
   rotate_left
   ·intro w'
    go_simp
    with_reducible rfl
   rotate_left
   ·simp only [Act.put, q1_, q2_, q3_, i64_w, i32_w]
    rfl
   refine pure_ (i := 1) (N := some 67) (v := ?_) (a' := ?_) #[T_,T_,F_,F_,F_,F_,F_,F_,F_,F_,F_,F_,F_,F_,F_,F_,F_] rfl rfl (any_of HT_.out (by kernel_rfl)) (fun _ _ _ h => h) (Or.inl ⟨by rfl, ?_⟩) ?_ ?_
   rotate_left
   ·intro w'
    go_simp
    with_reducible rfl
   rotate_left
   ·simp only [Act.put, q1_, q2_, q3_, i64_w, i32_w]
    rfl
   refine pure_ (i := 3) (N := some 69) (v := ?_) (a' := ?_) #[T_,T_,F_,T_,F_,F_,F_,F_,F_,F_,F_,F_,F_,F_,F_,F_,F_] rfl rfl (any_of HT_.out (by kernel_rfl)) (fun _ _ _ h => h) (Or.inl ⟨by rfl, ?_⟩) ?_ ?_
   rotate_left
   ·intro w'
    go_simp
    with_reducible rfl
   rotate_left
   ·simp only [Act.put, q1_, q2_, q3_, i64_w, i32_w]
    rfl
   refine pure_ (i := 4) (N := some 70) (v := ?_) (a' := ?_) #[T_,T_,F_,T_,T_,F_,F_,F_,F_,F_,F_,F_,F_,F_,F_,F_,F_] rfl rfl (any_of HT_.out (by kernel_rfl)) (fun _ _ _ h => h) (Or.inl ⟨by rfl, ?_⟩) ?_ ?_
   rotate_left
   ·intro w'
    go_simp
    with_reducible rfl
   rotate_left
   ·simp only [Act.put, q1_, q2_, q3_, i64_w, i32_w]
    rfl
   refine pure_ (i := 5) (N := some 71) (v := ?_) (a' := ?_) #[T_,T_,F_,T_,T_,T_,F_,F_,F_,F_,F_,F_,F_,F_,F_,F_,F_] rfl rfl (any_of HT_.out (by kernel_rfl)) (fun _ _ _ h => h) (Or.inl ⟨by rfl, ?_⟩) ?_ ?_
   rotate_left
   ·intro w'
    go_simp
    with_reducible rfl
   rotate_left
   ·simp only [Act.put, q1_, q2_, q3_, i64_w, i32_w]
    rfl
   refine pure_ (i := 7) (N := some 73) (v := ?_) (a' := ?_) #[T_,T_,F_,T_,T_,T_,F_,T_,F_,F_,F_,F_,F_,F_,F_,F_,F_] rfl rfl (any_of HT_.out (by kernel_rfl)) (fun _ _ _ h => h) (Or.inl ⟨by rfl, ?_⟩) ?_ ?_
   rotate_left
   ·intro w'
    go_simp
    with_reducible rfl
   rotate_left
   ·simp only [Act.put, q1_, q2_, q3_, i64_w, i32_w]
    rfl
   refine pure_ (i := 8) (N := some 74) (v := ?_) (a' := ?_) #[T_,T_,F_,T_,T_,T_,F_,T_,T_,F_,F_,F_,F_,F_,F_,F_,F_] rfl rfl (any_of HT_.out (by kernel_rfl)) (fun _ _ _ h => h) (Or.inl ⟨by rfl, ?_⟩) ?_ ?_
   rotate_left
   ·intro w'
    go_simp
    with_reducible rfl
   rotate_left
   ·simp only [Act.put, q1_, q2_, q3_, i64_w, i32_w]
    rfl
   refine pure_ (i := 9) (N := some 75) (v := ?_) (a' := ?_) #[T_,T_,F_,T_,T_,T_,F_,T_,T_,T_,F_,F_,F_,F_,F_,F_,F_] rfl rfl (any_of HT_.out (by kernel_rfl)) (fun _ _ _ h => h) (Or.inl ⟨by rfl, ?_⟩) ?_ ?_
   rotate_left
   ·intro w'
    go_simp
    with_reducible rfl
   rotate_left
   ·simp only [Act.put, q1_, q2_, q3_, i64_w, i32_w]
    rfl
   refine one_ (i := 2) (N := some 68) #[T_,T_,T_,T_,T_,T_,F_,T_,T_,T_,F_,F_,F_,F_,F_,F_,F_] rfl rfl (one_of HT_.out (by kernel_rfl)) (by decide) (fun K hK => ?_)
   refine Kd.N_lit_step k41 _ 41 ?hg (N' := 68) ?hd (xs := ([] : List (S41))) (inner := []) (ok := (fun _ => True)) (okp := (fun _ => True)) ?hr ?hp (fun _ hk => hk) ((show ∀ k_, w41.heap.size ≤ k_ → (fun _ => True) k_ from fun k_ hk => trivial) _ (Nat.le_refl _)) (Below.refl _ _) (Nat.le_refl _) (by simp) ?_; (case hd => rfl); (case hg => rfl); (case hr => first | (go_simp; done) | (go_simp; rfl) | (go_simp; simp [IntKind.wrap_u8, IntKind.wrap_u32]; done)); (case hp => exact (Reps.none _ _))
   intro v136 w44 ho45 hb hg_ hnew_
   clear hg_ hnew_
   (first | rw [← Ny135.out] at ho45 | (simp only [Int.reduceToNat] at ho45; rw [← Ny135.out] at ho45))
   have n0_ := Aside0.mk (Kd.N_lower ho45 (below_size (by repeat (first | (with_reducible first | exact HB.out | apply below_alloc | apply pw_below_drewN | apply below_drew1) | exact HB.out))))
   have n1_ := Aside0.mk (below_step (by repeat (first | (with_reducible first | exact HB.out | apply below_alloc | apply pw_below_drewN | apply below_drew1) | exact HB.out)) hb)
   clear HB
   have HO137 := n0_
   have HB := n1_
   clear n0_ n1_
   clear hb ho45
   refine hK.out _ _ trivial (fun hHeld => ?_)
   clear hK K
   refine norm_ (a' := ?_) ?_ ?_
   rotate_left
   ·show Act.put _ (some 68) _ = _
    simp only [Act.put, q1_, q2_, q3_, i64_w, i32_w]
    rfl
   refine one_ (i := 6) (N := some 72) #[T_,T_,T_,T_,T_,T_,T_,T_,T_,T_,F_,F_,F_,F_,F_,F_,F_] rfl rfl (one_of HT_.out (by kernel_rfl)) (by decide) (fun K hK => ?_)
   refine Kd.N_append_rows_step k41 (w0 := w) w.heap.size (by rfl) (.tmp 68) (.tmp 71) 23 41 (.agg #[(.int .u32 0), (.int .i64 0), (.int .i64 0), (.int .i64 0), (.slice none 0 0), (.int .u32 0), (.int .i64 0), (.int .i64 0), (.slice none 0 0), (.slice none 0 0), (.int .i64 0)]) 136 rfl Try.underlying23 info41 rfl (by decide) (by omega) v136 y135 y138 _ _ _ (fun _ => True) (fun k_ => ((fun _ => True)) k_ ∧ some k_ ≠ (v136 : Value).ownBlock) rfl rfl ?aO ?aR (fun _ hk => hk) ?aF ?aB ?aS ?aL ?_
   (case aR => exact (Kd.F_mono (ok' := (fun k_ => ((fun _ => True)) k_ ∧ some k_ ≠ (v136 : Value).ownBlock)) (Kd.F_below (Kd.C_F k41_heap HR141.out) (by repeat (first | (with_reducible first | exact HB.out | apply below_alloc | apply pw_below_drewN | apply below_drew1) | exact HB.out))) (fun k_ hk => ⟨trivial, fun e_ => absurd hk (Nat.not_lt.mpr (Kd.N_base HO137.out k_ e_.symm))⟩)))
   (case aB => exact (by repeat (first | (with_reducible first | exact HB.out | apply below_alloc | apply pw_below_drewN | apply below_drew1) | exact HB.out)))
   (case aF => exact (fun _ _ => trivial))
   (case aO => exact (by (with_reducible repeat (first | apply Kd.N_alloc | apply Kd.N_drewN | apply Kd.N_drew)); exact HO137.out))
   (case aS => exact (below_size (by repeat (first | (with_reducible first | exact HB.out | apply below_alloc | apply pw_below_drewN | apply below_drew1) | exact HB.out))))
   (case aL => have := LMc31.out; omega)
   intro v143 w46 ho hb hg hat
   rw [← Ny142.out] at ho
   have n0_ := Aside0.mk (hb)
   have n1_ := Aside0.mk (ho)
   clear HB
   clear HO137
   have HB := n0_
   have HO144 := n1_
   clear n0_ n1_
   clear ho hb hg hat
   refine hK.out _ _ trivial (fun hHeld => ?_)
   clear hK K
   refine norm_ (a' := ?_) ?_ ?_
   rotate_left
   ·show Act.put _ (some 72) _ = _
    simp only [Act.put, q1_, q2_, q3_, i64_w, i32_w]
    rfl
   refine one_ (i := 10) (N := some 76) #[T_,T_,T_,T_,T_,T_,T_,T_,T_,T_,T_,F_,F_,F_,F_,F_,F_] rfl rfl (one_of HT_.out (by kernel_rfl)) (by decide) (fun K hK => ?_)
   refine Kd.N_append_rows_step k41 (w0 := w) w.heap.size (by rfl) (.tmp 72) (.tmp 75) 23 41 (.agg #[(.int .u32 0), (.int .i64 0), (.int .i64 0), (.int .i64 0), (.slice none 0 0), (.int .u32 0), (.int .i64 0), (.int .i64 0), (.slice none 0 0), (.slice none 0 0), (.int .i64 0)]) 136 rfl Try.underlying23 info41 rfl (by decide) (by omega) v143 y142 y145 _ _ _ (fun _ => True) (fun k_ => ((fun _ => True)) k_ ∧ some k_ ≠ (v143 : Value).ownBlock) rfl rfl ?aO ?aR (fun _ hk => hk) ?aF ?aB ?aS ?aL ?_
   (case aR => exact (Kd.F_mono (ok' := (fun k_ => ((fun _ => True)) k_ ∧ some k_ ≠ (v143 : Value).ownBlock)) (Kd.F_below (Kd.C_F k41_heap HR148.out) (by repeat (first | (with_reducible first | exact HB.out | apply below_alloc | apply pw_below_drewN | apply below_drew1) | exact HB.out))) (fun k_ hk => ⟨trivial, fun e_ => absurd hk (Nat.not_lt.mpr (Kd.N_base HO144.out k_ e_.symm))⟩)))
   (case aB => exact (by repeat (first | (with_reducible first | exact HB.out | apply below_alloc | apply pw_below_drewN | apply below_drew1) | exact HB.out)))
   (case aF => exact (fun _ _ => trivial))
   (case aO => exact (by (with_reducible repeat (first | apply Kd.N_alloc | apply Kd.N_drewN | apply Kd.N_drew)); exact HO144.out))
   (case aS => exact (below_size (by repeat (first | (with_reducible first | exact HB.out | apply below_alloc | apply pw_below_drewN | apply below_drew1) | exact HB.out))))
   (case aL => have := LMc34.out; omega)
   intro v150 w47 ho hb hg hat
   rw [← Ny149.out] at ho
   have n0_ := Aside0.mk (hb)
   have n1_ := Aside0.mk (ho)
   clear HB
   clear HO144
   have HB := n0_
   have HO151 := n1_
   clear n0_ n1_
   clear ho hb hg hat
   obtain ⟨Ao48, co48, eo48⟩ := Kd.N_slice HO151.out
   (first | subst eo48 | (injection eo48 with f1_ f2_ f3_; have f4_ := f1_.symm; have f5_ := f3_.symm; clear f1_ f2_ f3_; subst f4_; subst f5_))
   refine hK.out _ _ trivial (fun hHeld => ?_)
   clear hK K
   refine norm_ (a' := ?_) ?_ ?_
   rotate_left
   ·show Act.put _ (some 76) _ = _
    simp only [Act.put, q1_, q2_, q3_, i64_w, i32_w]
    rfl
   refine one_ (i := 11) (N := some 77) #[T_,T_,T_,T_,T_,T_,T_,T_,T_,T_,T_,T_,F_,F_,F_,F_,F_] rfl rfl (one_of HT_.out (by kernel_rfl)) (by decide) (fun K hK => ?_)
   refine goes_ Try.func10 (by kernel_rfl) rfl #[.int .i64 a0, .slice A1 l1.length c1, .slice Ao48 y149.length co48] (by rfl) rfl rfl (by (try simp only [List.map_toArray, List.map_cons, List.map_nil]); first | done | rfl | (simp only [List.length_drop, List.length_take]; rfl)) ?_
   with_reducible refine (decide_Best.calls a0 _ _ l1 _ _ y149 t152 t153 _ ?side1 ?side2 ?side3 ?side4 A35.out).mono ?_
   (case side1 => repeat (first | exact (Kd.C_below HR1.out HB.out) | (with_reducible refine Kd.C_alloc ?_ _) | (with_reducible refine Kd.C_drewN ?_ _) | (with_reducible refine Kd.C_drew ?_)))
   (case side2 => exact HC1.out)
   (case side3 => repeat (first | exact (Kd.N_reads' HO151.out).2.2 | (with_reducible refine Kd.C_alloc ?_ _) | (with_reducible refine Kd.C_drewN ?_ _) | (with_reducible refine Kd.C_drew ?_)))
   (case side4 => exact (Kd.N_reads' HO151.out).2.1)
   rintro e w49 ⟨rfl, hb⟩
   refine ⟨_, rfl, ?_⟩
   have n0_ := Aside0.mk (Kd.N_below (by (with_reducible repeat (first | apply Kd.N_alloc | apply Kd.N_drewN | apply Kd.N_drew)); exact HO151.out) hb)
   have n1_ := Aside0.mk (below_step (by repeat (first | (with_reducible first | exact HB.out | apply below_alloc | apply pw_below_drewN | apply below_drew1) | exact HB.out)) hb)
   clear HO151
   clear HB
   have HO151 := n0_
   have HB := n1_
   clear n0_ n1_
   (try clear hb)
   (try clear hb2)
   (try clear hk)
   (try clear hi)
   refine hK.out _ _ trivial (fun hHeld => ?_)
   clear hK K
   refine norm_ (a' := ?_) ?_ ?_
   rotate_left
   ·show Act.put _ (some 77) _ = _
    simp only [Act.put, q1_, q2_, q3_, i64_w, i32_w]
    rfl
   refine pure_ (i := 12) (N := some 65) (v := ?_) (a' := ?_) #[T_,T_,T_,T_,T_,T_,T_,T_,T_,T_,T_,T_,T_,F_,F_,F_,F_] rfl rfl (any_of HT_.out (by kernel_rfl)) (fun _ _ _ h => h) (Or.inl ⟨by rfl, ?_⟩) ?_ ?_
   rotate_left
   ·intro w'
    go_simp
    with_reducible rfl
   rotate_left
   ·simp only [Act.put, q1_, q2_, q3_, i64_w, i32_w]
    rfl
   refine pure_ (i := 13) (N := some 78) (v := ?_) (a' := ?_) #[T_,T_,T_,T_,T_,T_,T_,T_,T_,T_,T_,T_,T_,T_,F_,F_,F_] rfl rfl (any_of HT_.out (by kernel_rfl)) (fun _ _ _ h => h) (Or.inl ⟨by rfl, ?_⟩) ?_ ?_
   rotate_left
   ·intro w'
    go_simp
    with_reducible rfl
   rotate_left
   ·simp only [Act.put, q1_, q2_, q3_, i64_w, i32_w]
    rfl
   refine pure_ (i := 14) (N := some 79) (v := ?_) (a' := ?_) #[T_,T_,T_,T_,T_,T_,T_,T_,T_,T_,T_,T_,T_,T_,T_,F_,F_] rfl rfl (any_of HT_.out (by kernel_rfl)) (fun _ _ _ h => h) (Or.inl ⟨by rfl, ?_⟩) ?_ ?_
   rotate_left
   ·intro w'
    go_simp
    with_reducible rfl
   rotate_left
   ·simp only [Act.put, q1_, q2_, q3_, i64_w, i32_w]
    rfl
   refine pure_ (i := 15) (N := some 14) (v := ?_) (a' := ?_) #[T_,T_,T_,T_,T_,T_,T_,T_,T_,T_,T_,T_,T_,T_,T_,T_,F_] rfl rfl (any_of HT_.out (by kernel_rfl)) (fun _ _ _ h => h) (Or.inl ⟨by rfl, ?_⟩) ?_ ?_
   rotate_left
   ·intro w'
    go_simp
    with_reducible rfl
   rotate_left
   ·simp only [Act.put, q1_, q2_, q3_, i64_w, i32_w]
    rfl
   refine pure_ (i := 16) (N := some 15) (v := ?_) (a' := ?_) #[T_,T_,T_,T_,T_,T_,T_,T_,T_,T_,T_,T_,T_,T_,T_,T_,T_] rfl rfl (any_of HT_.out (by kernel_rfl)) (fun _ _ _ h => h) (Or.inl ⟨by rfl, ?_⟩) ?_ ?_
   rotate_left
   ·intro w'
    go_simp
    with_reducible rfl
   rotate_left
   ·simp only [Act.put, q1_, q2_, q3_, i64_w, i32_w]
    rfl
   refine done_ (done_of HT_.out (by kernel_rfl)) ?_
   try go_wp2_with (first | ((with_reducible refine gate_callee (f := 9) rfl ?_); refine goesL_ (some 80) rfl rfl Try.func9 (by kernel_rfl) rfl #[] rfl (by (try simp only [List.map_toArray, List.map_cons, List.map_nil]); first | done | rfl | (simp only [List.length_drop, List.length_take]; rfl)) ?_; (with_reducible refine (interregnumlaw15_answers.calls  true _ A36.out).mono ?_); rintro e w50 ⟨rfl, hb⟩; refine ⟨_, rfl, ?_⟩; have n0_ := Aside0.mk (Kd.N_below (by (with_reducible repeat (first | apply Kd.N_alloc | apply Kd.N_drewN | apply Kd.N_drew)); exact HO151.out) hb); have n1_ := Aside0.mk (below_step (by repeat (first | (with_reducible first | exact HB.out | apply below_alloc | apply pw_below_drewN | apply below_drew1) | exact HB.out)) hb); clear HO151; clear HB; have HO151 := n0_; have HB := n1_; clear n0_ n1_; (try clear hb); (try clear hb2); (try clear hk); (try clear hi)))
   go_ret
   exact ⟨by first | rfl | (simp [errW_none, errW_some] <;> rfl) | (simp only [← hji28]; first | rfl | (simp [errW_none, errW_some] <;> rfl)) | (simp [*, errW_none, errW_some] <;> rfl), by repeat (first | (with_reducible first | exact HB.out | apply below_alloc | apply pw_below_drewN | apply below_drew1) | exact HB.out)⟩
  replace c39 := Bool.eq_false_iff.mpr c39
  subst c39
  have H1 : (some true) = some r := by rw [if_neg (show ¬ (false = true) by decide)] at H; exact H
  clear H
  have H := H1
  clear H1
  obtain rfl := Option.some.inj H
  try go_wp2_with (first | ((with_reducible refine gate_callee (f := 10) rfl ?_); refine goesL_ (some 62) rfl rfl Try.func10 (by kernel_rfl) rfl #[.int .i64 a0, .slice A1 l1.length c1, .slice A2 l2.length c2] rfl (by (try simp only [List.map_toArray, List.map_cons, List.map_nil]); first | done | rfl | (simp only [List.length_drop, List.length_take]; rfl)) ?_; (with_reducible refine (decide_Best.calls a0 _ _ l1 _ _ l2 t133 false _ ?side1 ?side2 ?side3 ?side4 A27.out).mono ?_); (case side1 => repeat (first | exact (Kd.C_below HR1.out HB.out) | (with_reducible refine Kd.C_alloc ?_ _) | (with_reducible refine Kd.C_drewN ?_ _) | (with_reducible refine Kd.C_drew ?_))); (case side2 => exact HC1.out); (case side3 => repeat (first | exact (Kd.C_below HR2.out HB.out) | (with_reducible refine Kd.C_alloc ?_ _) | (with_reducible refine Kd.C_drewN ?_ _) | (with_reducible refine Kd.C_drew ?_))); (case side4 => exact HC2.out); rintro e w51 ⟨rfl, hb⟩; refine ⟨_, rfl, ?_⟩; have n0_ := Aside0.mk (below_step (by repeat (first | (with_reducible first | exact HB.out | apply below_alloc | apply pw_below_drewN | apply below_drew1) | exact HB.out)) hb); clear HB; have HB := n0_; clear n0_; (try clear hb); (try clear hb2); (try clear hk); (try clear hi)))
  have n0_ := Aside0.mk (below_drew1 HB.out)
  clear HB
  have HB := n0_
  clear n0_
  have q53 : ((ji28) : Int) ≤ ((l2.length : Int) : Int) := of_decide_eq_true (by first | (with_reducible assumption) | assumption)
  obtain ⟨i053, hi053, _, hsz53, _⟩ := info_parts info41
  have hroom53 : l2.length ≤ c2 := HC2.out
  have hC53 : Kd.C k41 _ A2 l2.length l2 := HR2.out
  have q053 : (0 : Int) ≤ ((ji28) : Int) := of_decide_eq_true (by first | (with_reducible assumption) | assumption)
  have hcut53 := cut_from (P := Try.prog) 23 41 .i64 Try.underlying23 hi053 11 hsz53 A2 l2.length c2 (ji28) q053 q53
  have hr53 := Kd.C_drop (m := ((ji28) : Int).toNat) (c := c2) hC53 (by omega) hroom53
  obtain ⟨A53, hA53⟩ : ∃ A1, A1 = (if c2 = ((ji28) : Int).toNat then A2 else (A2 : Option Addr).map (·.add (((ji28) : Int).toNat * 11))) := ⟨_, rfl⟩
  obtain ⟨c53, hc53⟩ : ∃ c1, c1 = c2 - ((ji28) : Int).toNat := ⟨_, rfl⟩
  have hy53 : y138.length = l2.length - ((ji28) : Int).toNat := (by rw [Ny138.out, List.length_drop] <;> omega)
  rw [show (l2).drop ((ji28) : Int).toNat = y138 from Ny138.out.symm] at hr53
  replace hr53 : Kd.C k41 _ A53 y138.length y138 := (by rw [hA53]; exact hr53)
  rw [← hy53, ← hA53, ← hc53] at hcut53
  have HR141 := Aside0.mk hr53
  have HC141 := Aside0.mk (show y138.length ≤ c53 from by rw [hy53, hc53]; exact Nat.sub_le_sub_right hroom53 _)
  clear hr53 hC53 hroom53 hi053 hsz53 hc53
  have KY53 := Aside0.mk hy53
  have KA53 := Aside0.mk hA53
  clear hy53 hA53
  replace q53 := eq_true q53
  have q54 : ((ji28) : Int) ≤ ((l2.length : Int) : Int) := of_decide_eq_true (by first | (with_reducible assumption) | assumption)
  obtain ⟨i054, hi054, _, hsz54, _⟩ := info_parts info41
  have hroom54 : l2.length ≤ c2 := HC2.out
  have hC54 : Kd.C k41 _ A2 l2.length l2 := HR2.out
  have hcut54 := cut_to (P := Try.prog) 23 41 .i64 Try.underlying23 hi054 A2 l2.length c2 (ji28) (of_decide_eq_true (by first | (with_reducible assumption) | assumption)) q54 hroom54
  have hr54 := Kd.C_take (m := ((ji28) : Int).toNat) hC54 (by omega)
  have hy54 : y145.length = ((ji28) : Int).toNat := (by rw [Ny145.out, List.length_take]; omega)
  rw [← Ny145.out] at hr54
  rw [← hy54] at hcut54
  have HR148 := Aside0.mk hr54
  have HC148 := Aside0.mk (show y145.length ≤ c2 from by omega)
  clear hr54 hC54 hroom54 hi054 hsz54
  have KY54 := Aside0.mk hy54
  clear hy54
  replace q54 := eq_true q54
  refine start_ (n := 17) (S := fun w' => True) (ds := []) #[F_,F_,F_,F_,F_,F_,F_,F_,F_,F_,F_,F_,F_,F_,F_,F_,F_] (by kernel_rfl) rfl rfl trivial (fun hHeld => ?_); refine with_tabW interregnumlaw15_DecideOrder.tab13 interregnumlaw15_DecideOrder.bits13 (fun HT_ HW_ => ?_)
  generalize w51.drew = w52 at HB HR141 HR148 hHeld ⊢
  refine pure_ (i := 0) (N := some 66) (v := ?_) (a' := ?_) #[T_,F_,F_,F_,F_,F_,F_,F_,F_,F_,F_,F_,F_,F_,F_,F_,F_] rfl rfl (any_of HT_.out (by kernel_rfl)) (fun _ _ _ h => h) (Or.inl ⟨by rfl, ?_⟩) ?_ ?_
  rotate_left
  ·intro w'
   go_simp
   with_reducible rfl
  rotate_left
  ·simp only [Act.put, q1_, q2_, q3_, i64_w, i32_w]
   rfl
  refine pure_ (i := 1) (N := some 67) (v := ?_) (a' := ?_) #[T_,T_,F_,F_,F_,F_,F_,F_,F_,F_,F_,F_,F_,F_,F_,F_,F_] rfl rfl (any_of HT_.out (by kernel_rfl)) (fun _ _ _ h => h) (Or.inl ⟨by rfl, ?_⟩) ?_ ?_
  rotate_left
  ·intro w'
   go_simp
   with_reducible rfl
  rotate_left
  ·simp only [Act.put, q1_, q2_, q3_, i64_w, i32_w]
   rfl
  refine pure_ (i := 3) (N := some 69) (v := ?_) (a' := ?_) #[T_,T_,F_,T_,F_,F_,F_,F_,F_,F_,F_,F_,F_,F_,F_,F_,F_] rfl rfl (any_of HT_.out (by kernel_rfl)) (fun _ _ _ h => h) (Or.inl ⟨by rfl, ?_⟩) ?_ ?_
  rotate_left
  ·intro w'
   go_simp
   with_reducible rfl
  rotate_left
  ·simp only [Act.put, q1_, q2_, q3_, i64_w, i32_w]
   rfl
  refine pure_ (i := 4) (N := some 70) (v := ?_) (a' := ?_) #[T_,T_,F_,T_,T_,F_,F_,F_,F_,F_,F_,F_,F_,F_,F_,F_,F_] rfl rfl (any_of HT_.out (by kernel_rfl)) (fun _ _ _ h => h) (Or.inl ⟨by rfl, ?_⟩) ?_ ?_
  rotate_left
  ·intro w'
   go_simp
   with_reducible rfl
  rotate_left
  ·simp only [Act.put, q1_, q2_, q3_, i64_w, i32_w]
   rfl
  refine pure_ (i := 5) (N := some 71) (v := ?_) (a' := ?_) #[T_,T_,F_,T_,T_,T_,F_,F_,F_,F_,F_,F_,F_,F_,F_,F_,F_] rfl rfl (any_of HT_.out (by kernel_rfl)) (fun _ _ _ h => h) (Or.inl ⟨by rfl, ?_⟩) ?_ ?_
  rotate_left
  ·intro w'
   go_simp
   with_reducible rfl
  rotate_left
  ·simp only [Act.put, q1_, q2_, q3_, i64_w, i32_w]
   rfl
  refine pure_ (i := 7) (N := some 73) (v := ?_) (a' := ?_) #[T_,T_,F_,T_,T_,T_,F_,T_,F_,F_,F_,F_,F_,F_,F_,F_,F_] rfl rfl (any_of HT_.out (by kernel_rfl)) (fun _ _ _ h => h) (Or.inl ⟨by rfl, ?_⟩) ?_ ?_
  rotate_left
  ·intro w'
   go_simp
   with_reducible rfl
  rotate_left
  ·simp only [Act.put, q1_, q2_, q3_, i64_w, i32_w]
   rfl
  refine pure_ (i := 8) (N := some 74) (v := ?_) (a' := ?_) #[T_,T_,F_,T_,T_,T_,F_,T_,T_,F_,F_,F_,F_,F_,F_,F_,F_] rfl rfl (any_of HT_.out (by kernel_rfl)) (fun _ _ _ h => h) (Or.inl ⟨by rfl, ?_⟩) ?_ ?_
  rotate_left
  ·intro w'
   go_simp
   with_reducible rfl
  rotate_left
  ·simp only [Act.put, q1_, q2_, q3_, i64_w, i32_w]
   rfl
  refine pure_ (i := 9) (N := some 75) (v := ?_) (a' := ?_) #[T_,T_,F_,T_,T_,T_,F_,T_,T_,T_,F_,F_,F_,F_,F_,F_,F_] rfl rfl (any_of HT_.out (by kernel_rfl)) (fun _ _ _ h => h) (Or.inl ⟨by rfl, ?_⟩) ?_ ?_
  rotate_left
  ·intro w'
   go_simp
   with_reducible rfl
  rotate_left
  ·simp only [Act.put, q1_, q2_, q3_, i64_w, i32_w]
   rfl
  refine one_ (i := 2) (N := some 68) #[T_,T_,T_,T_,T_,T_,F_,T_,T_,T_,F_,F_,F_,F_,F_,F_,F_] rfl rfl (one_of HT_.out (by kernel_rfl)) (by decide) (fun K hK => ?_)
  refine Kd.N_lit_step k41 _ 41 ?hg (N' := 68) ?hd (xs := ([] : List (S41))) (inner := []) (ok := (fun _ => True)) (okp := (fun _ => True)) ?hr ?hp (fun _ hk => hk) ((show ∀ k_, w52.heap.size ≤ k_ → (fun _ => True) k_ from fun k_ hk => trivial) _ (Nat.le_refl _)) (Below.refl _ _) (Nat.le_refl _) (by simp) ?_; (case hd => rfl); (case hg => rfl); (case hr => first | (go_simp; done) | (go_simp; rfl) | (go_simp; simp [IntKind.wrap_u8, IntKind.wrap_u32]; done)); (case hp => exact (Reps.none _ _))
  intro v136 w55 ho56 hb hg_ hnew_
  clear hg_ hnew_
  (first | rw [← Ny135.out] at ho56 | (simp only [Int.reduceToNat] at ho56; rw [← Ny135.out] at ho56))
  have n0_ := Aside0.mk (Kd.N_lower ho56 (below_size (by repeat (first | (with_reducible first | exact HB.out | apply below_alloc | apply pw_below_drewN | apply below_drew1) | exact HB.out))))
  have n1_ := Aside0.mk (below_step (by repeat (first | (with_reducible first | exact HB.out | apply below_alloc | apply pw_below_drewN | apply below_drew1) | exact HB.out)) hb)
  clear HB
  have HO137 := n0_
  have HB := n1_
  clear n0_ n1_
  clear hb ho56
  refine hK.out _ _ trivial (fun hHeld => ?_)
  clear hK K
  refine norm_ (a' := ?_) ?_ ?_
  rotate_left
  ·show Act.put _ (some 68) _ = _
   simp only [Act.put, q1_, q2_, q3_, i64_w, i32_w]
   rfl
  refine one_ (i := 6) (N := some 72) #[T_,T_,T_,T_,T_,T_,T_,T_,T_,T_,F_,F_,F_,F_,F_,F_,F_] rfl rfl (one_of HT_.out (by kernel_rfl)) (by decide) (fun K hK => ?_)
  refine Kd.N_append_rows_step k41 (w0 := w) w.heap.size (by rfl) (.tmp 68) (.tmp 71) 23 41 (.agg #[(.int .u32 0), (.int .i64 0), (.int .i64 0), (.int .i64 0), (.slice none 0 0), (.int .u32 0), (.int .i64 0), (.int .i64 0), (.slice none 0 0), (.slice none 0 0), (.int .i64 0)]) 136 rfl Try.underlying23 info41 rfl (by decide) (by omega) v136 y135 y138 _ _ _ (fun _ => True) (fun k_ => ((fun _ => True)) k_ ∧ some k_ ≠ (v136 : Value).ownBlock) rfl rfl ?aO ?aR (fun _ hk => hk) ?aF ?aB ?aS ?aL ?_
  (case aR => exact (Kd.F_mono (ok' := (fun k_ => ((fun _ => True)) k_ ∧ some k_ ≠ (v136 : Value).ownBlock)) (Kd.F_below (Kd.C_F k41_heap HR141.out) (by repeat (first | (with_reducible first | exact HB.out | apply below_alloc | apply pw_below_drewN | apply below_drew1) | exact HB.out))) (fun k_ hk => ⟨trivial, fun e_ => absurd hk (Nat.not_lt.mpr (Kd.N_base HO137.out k_ e_.symm))⟩)))
  (case aB => exact (by repeat (first | (with_reducible first | exact HB.out | apply below_alloc | apply pw_below_drewN | apply below_drew1) | exact HB.out)))
  (case aF => exact (fun _ _ => trivial))
  (case aO => exact (by (with_reducible repeat (first | apply Kd.N_alloc | apply Kd.N_drewN | apply Kd.N_drew)); exact HO137.out))
  (case aS => exact (below_size (by repeat (first | (with_reducible first | exact HB.out | apply below_alloc | apply pw_below_drewN | apply below_drew1) | exact HB.out))))
  (case aL => have := LMc31.out; omega)
  intro v143 w57 ho hb hg hat
  rw [← Ny142.out] at ho
  have n0_ := Aside0.mk (hb)
  have n1_ := Aside0.mk (ho)
  clear HB
  clear HO137
  have HB := n0_
  have HO144 := n1_
  clear n0_ n1_
  clear ho hb hg hat
  refine hK.out _ _ trivial (fun hHeld => ?_)
  clear hK K
  refine norm_ (a' := ?_) ?_ ?_
  rotate_left
  ·show Act.put _ (some 72) _ = _
   simp only [Act.put, q1_, q2_, q3_, i64_w, i32_w]
   rfl
  refine one_ (i := 10) (N := some 76) #[T_,T_,T_,T_,T_,T_,T_,T_,T_,T_,T_,F_,F_,F_,F_,F_,F_] rfl rfl (one_of HT_.out (by kernel_rfl)) (by decide) (fun K hK => ?_)
  refine Kd.N_append_rows_step k41 (w0 := w) w.heap.size (by rfl) (.tmp 72) (.tmp 75) 23 41 (.agg #[(.int .u32 0), (.int .i64 0), (.int .i64 0), (.int .i64 0), (.slice none 0 0), (.int .u32 0), (.int .i64 0), (.int .i64 0), (.slice none 0 0), (.slice none 0 0), (.int .i64 0)]) 136 rfl Try.underlying23 info41 rfl (by decide) (by omega) v143 y142 y145 _ _ _ (fun _ => True) (fun k_ => ((fun _ => True)) k_ ∧ some k_ ≠ (v143 : Value).ownBlock) rfl rfl ?aO ?aR (fun _ hk => hk) ?aF ?aB ?aS ?aL ?_
  (case aR => exact (Kd.F_mono (ok' := (fun k_ => ((fun _ => True)) k_ ∧ some k_ ≠ (v143 : Value).ownBlock)) (Kd.F_below (Kd.C_F k41_heap HR148.out) (by repeat (first | (with_reducible first | exact HB.out | apply below_alloc | apply pw_below_drewN | apply below_drew1) | exact HB.out))) (fun k_ hk => ⟨trivial, fun e_ => absurd hk (Nat.not_lt.mpr (Kd.N_base HO144.out k_ e_.symm))⟩)))
  (case aB => exact (by repeat (first | (with_reducible first | exact HB.out | apply below_alloc | apply pw_below_drewN | apply below_drew1) | exact HB.out)))
  (case aF => exact (fun _ _ => trivial))
  (case aO => exact (by (with_reducible repeat (first | apply Kd.N_alloc | apply Kd.N_drewN | apply Kd.N_drew)); exact HO144.out))
  (case aS => exact (below_size (by repeat (first | (with_reducible first | exact HB.out | apply below_alloc | apply pw_below_drewN | apply below_drew1) | exact HB.out))))
  (case aL => have := LMc34.out; omega)
  intro v150 w58 ho hb hg hat
  rw [← Ny149.out] at ho
  have n0_ := Aside0.mk (hb)
  have n1_ := Aside0.mk (ho)
  clear HB
  clear HO144
  have HB := n0_
  have HO151 := n1_
  clear n0_ n1_
  clear ho hb hg hat
  obtain ⟨Ao59, co59, eo59⟩ := Kd.N_slice HO151.out
  (first | subst eo59 | (injection eo59 with f1_ f2_ f3_; have f4_ := f1_.symm; have f5_ := f3_.symm; clear f1_ f2_ f3_; subst f4_; subst f5_))
  refine hK.out _ _ trivial (fun hHeld => ?_)
  clear hK K
  refine norm_ (a' := ?_) ?_ ?_
  rotate_left
  ·show Act.put _ (some 76) _ = _
   simp only [Act.put, q1_, q2_, q3_, i64_w, i32_w]
   rfl
  refine one_ (i := 11) (N := some 77) #[T_,T_,T_,T_,T_,T_,T_,T_,T_,T_,T_,T_,F_,F_,F_,F_,F_] rfl rfl (one_of HT_.out (by kernel_rfl)) (by decide) (fun K hK => ?_)
  refine goes_ Try.func10 (by kernel_rfl) rfl #[.int .i64 a0, .slice A1 l1.length c1, .slice Ao59 y149.length co59] (by rfl) rfl rfl (by (try simp only [List.map_toArray, List.map_cons, List.map_nil]); first | done | rfl | (simp only [List.length_drop, List.length_take]; rfl)) ?_
  with_reducible refine (decide_Best.calls a0 _ _ l1 _ _ y149 t152 t153 _ ?side1 ?side2 ?side3 ?side4 A35.out).mono ?_
  (case side1 => repeat (first | exact (Kd.C_below HR1.out HB.out) | (with_reducible refine Kd.C_alloc ?_ _) | (with_reducible refine Kd.C_drewN ?_ _) | (with_reducible refine Kd.C_drew ?_)))
  (case side2 => exact HC1.out)
  (case side3 => repeat (first | exact (Kd.N_reads' HO151.out).2.2 | (with_reducible refine Kd.C_alloc ?_ _) | (with_reducible refine Kd.C_drewN ?_ _) | (with_reducible refine Kd.C_drew ?_)))
  (case side4 => exact (Kd.N_reads' HO151.out).2.1)
  rintro e w60 ⟨rfl, hb⟩
  refine ⟨_, rfl, ?_⟩
  have n0_ := Aside0.mk (Kd.N_below (by (with_reducible repeat (first | apply Kd.N_alloc | apply Kd.N_drewN | apply Kd.N_drew)); exact HO151.out) hb)
  have n1_ := Aside0.mk (below_step (by repeat (first | (with_reducible first | exact HB.out | apply below_alloc | apply pw_below_drewN | apply below_drew1) | exact HB.out)) hb)
  clear HO151
  clear HB
  have HO151 := n0_
  have HB := n1_
  clear n0_ n1_
  (try clear hb)
  (try clear hb2)
  (try clear hk)
  (try clear hi)
  refine hK.out _ _ trivial (fun hHeld => ?_)
  clear hK K
  refine norm_ (a' := ?_) ?_ ?_
  rotate_left
  ·show Act.put _ (some 77) _ = _
   simp only [Act.put, q1_, q2_, q3_, i64_w, i32_w]
   rfl
  refine pure_ (i := 12) (N := some 65) (v := ?_) (a' := ?_) #[T_,T_,T_,T_,T_,T_,T_,T_,T_,T_,T_,T_,T_,F_,F_,F_,F_] rfl rfl (any_of HT_.out (by kernel_rfl)) (fun _ _ _ h => h) (Or.inl ⟨by rfl, ?_⟩) ?_ ?_
  rotate_left
  ·intro w'
   go_simp
   with_reducible rfl
  rotate_left
  ·simp only [Act.put, q1_, q2_, q3_, i64_w, i32_w]
   rfl
  refine pure_ (i := 13) (N := some 78) (v := ?_) (a' := ?_) #[T_,T_,T_,T_,T_,T_,T_,T_,T_,T_,T_,T_,T_,T_,F_,F_,F_] rfl rfl (any_of HT_.out (by kernel_rfl)) (fun _ _ _ h => h) (Or.inl ⟨by rfl, ?_⟩) ?_ ?_
  rotate_left
  ·intro w'
   go_simp
   with_reducible rfl
  rotate_left
  ·simp only [Act.put, q1_, q2_, q3_, i64_w, i32_w]
   rfl
  refine pure_ (i := 14) (N := some 79) (v := ?_) (a' := ?_) #[T_,T_,T_,T_,T_,T_,T_,T_,T_,T_,T_,T_,T_,T_,T_,F_,F_] rfl rfl (any_of HT_.out (by kernel_rfl)) (fun _ _ _ h => h) (Or.inl ⟨by rfl, ?_⟩) ?_ ?_
  rotate_left
  ·intro w'
   go_simp
   with_reducible rfl
  rotate_left
  ·simp only [Act.put, q1_, q2_, q3_, i64_w, i32_w]
   rfl
  refine pure_ (i := 15) (N := some 14) (v := ?_) (a' := ?_) #[T_,T_,T_,T_,T_,T_,T_,T_,T_,T_,T_,T_,T_,T_,T_,T_,F_] rfl rfl (any_of HT_.out (by kernel_rfl)) (fun _ _ _ h => h) (Or.inl ⟨by rfl, ?_⟩) ?_ ?_
  rotate_left
  ·intro w'
   go_simp
   with_reducible rfl
  rotate_left
  ·simp only [Act.put, q1_, q2_, q3_, i64_w, i32_w]
   rfl
  refine pure_ (i := 16) (N := some 15) (v := ?_) (a' := ?_) #[T_,T_,T_,T_,T_,T_,T_,T_,T_,T_,T_,T_,T_,T_,T_,T_,T_] rfl rfl (any_of HT_.out (by kernel_rfl)) (fun _ _ _ h => h) (Or.inl ⟨by rfl, ?_⟩) ?_ ?_
  rotate_left
  ·intro w'
   go_simp
   with_reducible rfl
  rotate_left
  ·simp only [Act.put, q1_, q2_, q3_, i64_w, i32_w]
   rfl
  refine done_ (done_of HT_.out (by kernel_rfl)) ?_
  try go_wp2_with (first | ((with_reducible refine gate_callee (f := 9) rfl ?_); refine goesL_ (some 80) rfl rfl Try.func9 (by kernel_rfl) rfl #[] rfl (by (try simp only [List.map_toArray, List.map_cons, List.map_nil]); first | done | rfl | (simp only [List.length_drop, List.length_take]; rfl)) ?_; (with_reducible refine (interregnumlaw15_answers.calls  true _ A36.out).mono ?_); rintro e w61 ⟨rfl, hb⟩; refine ⟨_, rfl, ?_⟩; have n0_ := Aside0.mk (Kd.N_below (by (with_reducible repeat (first | apply Kd.N_alloc | apply Kd.N_drewN | apply Kd.N_drew)); exact HO151.out) hb); have n1_ := Aside0.mk (below_step (by repeat (first | (with_reducible first | exact HB.out | apply below_alloc | apply pw_below_drewN | apply below_drew1) | exact HB.out)) hb); clear HO151; clear HB; have HO151 := n0_; have HB := n1_; clear n0_ n1_; (try clear hb); (try clear hb2); (try clear hk); (try clear hi)))
  go_ret
  exact ⟨by first | rfl | (simp [errW_none, errW_some] <;> rfl) | (simp only [← hji28]; first | rfl | (simp [errW_none, errW_some] <;> rfl)) | (simp [*, errW_none, errW_some] <;> rfl), by repeat (first | (with_reducible first | exact HB.out | apply below_alloc | apply pw_below_drewN | apply below_drew1) | exact HB.out)⟩

end Go.Proofs.Ytediicgkcgfghaa.PDecideOrder
