-- Lean text by a program of this repo (wip/tools/printx.py), out of Lean's own print of the translation
import Derived.Test.YtndmlmfkbkefcaaPPrefixReadsx0
import Derived.Test.YtndmlmfkbkefcaaPPrefixReadsx1
namespace Go.Proofs.Ytndmlmfkbkefcaa.PPrefixReads
open Go.RowKit Go.Proofs.YtndmlmfkbkefcaaW.PrintWords Go.Proofs.YtndmlmfkbkefcaaW.PrintLast Go.Proofs.YtndmlmfkbkefcaaW.PrintMore
attribute [local go_sem] max2_int min2_int max_two min_two max_three min_three max_four min_four   -- for this text's walks alone
set_option linter.unusedVariables false
set_option linter.unusedSimpArgs false

attribute [local go_sem high] eqA32
/-! ### interregnumref05_SamePrefixes: function 22 -/
def interregnumref05_SamePrefixes.l0 : Nat → List (S32) → List (S32) → Int → Option (Bool)
  | 0, _, _, _ => none
  | k + 1, x0, x1, x5 => if x5 < (x0.length : Int) then (if 0 ≤ x5 then (if x5 < (x1.length : Int) then (if (!(((rd_T32 x0 x5).f0) == ((rd_T32 x1 x5).f0)) || (!(((rd_T32 x0 x5).f1) == ((rd_T32 x1 x5).f1)))) = true then (some false) else (interregnumref05_SamePrefixes.l0 k x0 x1 (wrap64 (x5 + 1)))) else (none)) else (none)) else (some true)
def interregnumref05_SamePrefixes.f (k : Nat) (l0 : List (S32)) (l1 : List (S32)) : Option (Bool) := if (l0.length : Int) = (l1.length : Int) then (interregnumref05_SamePrefixes.l0 k l0 l1 0) else (some false)
theorem interregnumref05_SamePrefixes.mono_l : ∀ k, (∀ y0 y1 y2, LeO (interregnumref05_SamePrefixes.l0 k y0 y1 y2) (interregnumref05_SamePrefixes.l0 (k + 1) y0 y1 y2))
  | 0 => fun _ _ _ r h => by simp [interregnumref05_SamePrefixes.l0] at h
  | k + 1 => by
    have ih0 := interregnumref05_SamePrefixes.mono_l k
    · intro y0 y1 y2
      unfold interregnumref05_SamePrefixes.l0
      repeat' first
      | (with_reducible exact ih0 _ _ _)
      | (with_reducible exact LeO.refl _)
      | (with_reducible exact LeO.none _)
      | (with_reducible refine LeO.ite ?_ ?_)
      | (with_reducible refine LeO.bind ?_ (fun _ => ?_))
      | exact ih0 _ _ _
      | exact LeO.none _
      | refine LeO.ite ?_ ?_
      | refine LeO.bind ?_ (fun _ => ?_)
theorem interregnumref05_SamePrefixes.mono : ∀ a0 a1 k, LeO (interregnumref05_SamePrefixes.f k a0 a1) (interregnumref05_SamePrefixes.f (k + 1) a0 a1) := by
  intro a0 a1 k
  have ih0 := interregnumref05_SamePrefixes.mono_l k
  unfold interregnumref05_SamePrefixes.f
  repeat' first
      | (with_reducible exact ih0 _ _ _)
      | (with_reducible exact LeO.refl _)
      | (with_reducible exact LeO.none _)
      | (with_reducible refine LeO.ite ?_ ?_)
      | (with_reducible refine LeO.bind ?_ (fun _ => ?_))
      | exact ih0 _ _ _
      | exact LeO.none _
      | refine LeO.ite ?_ ?_
      | refine LeO.bind ?_ (fun _ => ?_)
set_option maxHeartbeats 8000000 in
set_option maxRecDepth 100000 in
theorem interregnumref05_SamePrefixes.calls (k : Nat) (A0 : Option Addr) (c0 : Nat) (l0 : List (S32)) (A1 : Option Addr) (c1 : Nat) (l1 : List (S32)) (r : Bool) (w : World) (hr0 : Kd.C k32 w A0 l0.length l0) (hc0 : l0.length ≤ c0) (hr1 : Kd.C k32 w A1 l1.length l1) (hc1 : l1.length ≤ c1) (h : interregnumref05_SamePrefixes.f k l0 l1 = some r) :
    Calls Try.prog 22 #[.slice A0 l0.length c0, .slice A1 l1.length c1] w fun e w' => e = .returned (.bool r) ∧ Drawn0 w w' := by
  have hu32 := Try.underlying32
  have HR0 := Aside0.mk hr0
  have HC0 := Aside0.mk hc0
  clear hr0 hc0
  have HR1 := Aside0.mk hr1
  have HC1 := Aside0.mk hc1
  clear hr1 hc1
  have H : (if (l0.length : Int) = (l1.length : Int) then (interregnumref05_SamePrefixes.l0 k l0 l1 0) else (some false)) = some r := h
  clear h
  by_cases c3 : (l0.length : Int) = (l1.length : Int)
  · rw [if_pos c3] at H
    have c3b0 : ((l0.length : Int) == (l1.length : Int)) = true := beq_iff_eq.mpr c3
    have c3b1 : ((l0.length : Int) != (l1.length : Int)) = false := bne_eq_false_iff_eq.mpr c3
    have c3b2 : (l0.length == l1.length) = true := by first | simpa using c3 | (simp at c3 ⊢; omega)
    clear c3
    have H' := Aside0.mk H
    clear H
    go_enter Try.func22, Try.ntmps22
    go_wp2
    repeat (go_quiet (fail); try go_wp2)
    go_loopg [5] k (fun kq v5 w' => ∃ (x5_1 : Int), v5 = .int .i64 x5_1 ∧ Aside0 (interregnumref05_SamePrefixes.l0 kq l0 l1 x5_1 = some r) ∧ Aside0 (kq ≤ k) ∧ Drawn0 w w')
    case atStart => exact ⟨(0), (by first | rfl | (simp; done) | (simp [*]; done)), H', ⟨Nat.le_refl _⟩, by repeat (first | exact Drawn0.refl _ | apply Drawn0.step)⟩
    case round =>
      clear H'
      try clear c1
      try clear c2
      try clear p2
      try clear c3
      try clear c3b0
      try clear c3b1
      try clear c3b2
      obtain ⟨x5_1, rfl, HA, HK1, ⟨m1, rfl⟩⟩ := hrel
      cases gk with
      | zero => exact absurd HA.out (by simp [interregnumref05_SamePrefixes.l0])
      | succ k1 =>
        have H := HA.out
        clear HA
        simp only [interregnumref05_SamePrefixes.l0] at H
        by_cases c4 : x5_1 < (l0.length : Int)
        · rw [if_pos c4] at H
          have c4b0 : decide (x5_1 < (l0.length : Int)) = true := decide_eq_true c4
          clear c4
          by_cases c5 : 0 ≤ x5_1
          · rw [if_pos c5] at H
            have c5b0 : decide (0 ≤ x5_1) = true := decide_eq_true c5
            clear c5
            by_cases c6 : x5_1 < (l1.length : Int)
            · rw [if_pos c6] at H
              have c6b0 : decide (x5_1 < (l1.length : Int)) = true := decide_eq_true c6
              clear c6
              by_cases c7 : (!(((rd_T32 l0 x5_1).f0) == ((rd_T32 l1 x5_1).f0)) || (!(((rd_T32 l0 x5_1).f1) == ((rd_T32 l1 x5_1).f1)))) = true
              · rw [if_pos c7] at H
                have c7b0 : (!(((rd_T32 l0 x5_1).f0) == ((rd_T32 l1 x5_1).f0)) || (!(((rd_T32 l0 x5_1).f1) == ((rd_T32 l1 x5_1).f1)))) = true := c7
                clear c7
                obtain rfl := Option.some.inj H
                have p154 : 0 ≤ (x5_1 : Int) := of_decide_eq_true (by first | (with_reducible assumption) | assumption)
                have q154 : x5_1 < (l0.length : Int) := of_decide_eq_true (by first | (with_reducible assumption) | assumption)
                obtain ⟨ad154, e154, hx154_0, hx154_1⟩ := at_T32 HR0.out x5_1 p154 q154
                cases e154
                replace p154 := eq_true p154
                replace q154 := eq_true q154
                have p155 : 0 ≤ (x5_1 : Int) := of_decide_eq_true (by first | (with_reducible assumption) | assumption)
                have q155 : x5_1 < (l1.length : Int) := of_decide_eq_true (by first | (with_reducible assumption) | assumption)
                obtain ⟨ad155, e155, hx155_0, hx155_1⟩ := at_T32 HR1.out x5_1 p155 q155
                cases e155
                replace p155 := eq_true p155
                replace q155 := eq_true q155
                go_wp2
                repeat (go_quiet (fail); try go_wp2)
                go_ret
                exact ⟨by first | rfl | (simp; done) | (simp [*]; done), by repeat (first | exact Drawn0.refl _ | apply Drawn0.step)⟩
              · rw [if_neg c7] at H
                have c7b0 : (!(((rd_T32 l0 x5_1).f0) == ((rd_T32 l1 x5_1).f0)) || (!(((rd_T32 l0 x5_1).f1) == ((rd_T32 l1 x5_1).f1)))) = false := by simpa using c7
                clear c7
                have H' := Aside0.mk H
                clear H
                have p154 : 0 ≤ (x5_1 : Int) := of_decide_eq_true (by first | (with_reducible assumption) | assumption)
                have q154 : x5_1 < (l0.length : Int) := of_decide_eq_true (by first | (with_reducible assumption) | assumption)
                obtain ⟨ad154, e154, hx154_0, hx154_1⟩ := at_T32 HR0.out x5_1 p154 q154
                cases e154
                replace p154 := eq_true p154
                replace q154 := eq_true q154
                have p155 : 0 ≤ (x5_1 : Int) := of_decide_eq_true (by first | (with_reducible assumption) | assumption)
                have q155 : x5_1 < (l1.length : Int) := of_decide_eq_true (by first | (with_reducible assumption) | assumption)
                obtain ⟨ad155, e155, hx155_0, hx155_1⟩ := at_T32 HR1.out x5_1 p155 q155
                cases e155
                replace p155 := eq_true p155
                replace q155 := eq_true q155
                go_wp2
                repeat (go_quiet (fail); try go_wp2)
                go_roundg k1
                case measure => have := HK1.out; omega
                case rel => exact ⟨(wrap64 (x5_1 + 1)), (by first | rfl | (simp; done) | (simp [*]; done)), H', ⟨by have := HK1.out; omega⟩, by repeat (first | exact Drawn0.refl _ | apply Drawn0.step)⟩
            · rw [if_neg c6] at H
              exact absurd H (by simp)
          · rw [if_neg c5] at H
            exact absurd H (by simp)
        · rw [if_neg c4] at H
          have c4b0 : decide (x5_1 < (l0.length : Int)) = false := decide_eq_false c4
          clear c4
          obtain rfl := Option.some.inj H
          go_wp2
          repeat (go_quiet (fail); try go_wp2)
          go_ret
          exact ⟨by first | rfl | (simp; done) | (simp [*]; done), by repeat (first | exact Drawn0.refl _ | apply Drawn0.step)⟩
  · rw [if_neg c3] at H
    have c3b0 : ((l0.length : Int) == (l1.length : Int)) = false := beq_eq_false_iff_ne.mpr c3
    have c3b1 : ((l0.length : Int) != (l1.length : Int)) = true := bne_iff_ne.mpr c3
    have c3b2 : (l0.length == l1.length) = false := by first | simpa using c3 | (simp at c3 ⊢; omega)
    obtain rfl := Option.some.inj H
    go_enter Try.func22, Try.ntmps22
    go_wp2
    repeat (go_quiet (fail); try go_wp2)
    go_ret
    exact ⟨by first | rfl | (simp; done) | (simp [*]; done), by repeat (first | exact Drawn0.refl _ | apply Drawn0.step)⟩

/-! ### interregnumref05_Bit: function 29 -/
def interregnumref05_Bit.f (a0 : Int) (a1 : Int) : Option (Int) := if 0 ≤ (IntKind.u64.wrap (wrap64 (31 - a1))) then (some (Int.tmod (shr .u32 a0 (IntKind.u64.wrap (wrap64 (31 - a1)))) 2)) else (none)
set_option maxHeartbeats 8000000 in
set_option maxRecDepth 100000 in
theorem interregnumref05_Bit.calls (a0 : Int) (a1 : Int) (r : Int) (w : World) (h : interregnumref05_Bit.f a0 a1 = some r) :
    Calls Try.prog 29 #[.int .u32 a0, .int .i64 a1] w fun e w' => e = .returned (.int .u32 r) ∧ Drawn0 w w' := by
  have H : (if 0 ≤ (IntKind.u64.wrap (wrap64 (31 - a1))) then (some (Int.tmod (shr .u32 a0 (IntKind.u64.wrap (wrap64 (31 - a1)))) 2)) else (none)) = some r := h
  clear h
  obtain ⟨ji3, hji3⟩ : ∃ j_ : Int, (IntKind.u64.wrap (wrap64 (31 - a1))) = j_ := ⟨_, rfl⟩
  replace H : (if 0 ≤ (ji3) then (some (Int.tmod (shr .u32 a0 (ji3)) 2)) else (none)) = some r := by first | (rw [hji3] at H; exact H) | (simp only [hji3] at H ⊢; exact H)
  by_cases c4 : 0 ≤ (ji3)
  · rw [if_pos c4] at H
    have c4b0 := eq_true c4
    have c4b1 : decide (0 ≤ (ji3)) = true := decide_eq_true c4
    clear c4
    obtain ⟨ji5, hji5⟩ : ∃ j_ : Int, (shr .u32 a0 (ji3)) = j_ := ⟨_, rfl⟩
    replace H : (some (Int.tmod (ji5) 2)) = some r := by first | (rw [hji5] at H; exact H) | (simp only [hji5] at H ⊢; exact H)
    have hji5_ : (a0 / 2 ^ min (ji3).toNat 32) = ji5 := hji5
    have hji5z : (ji3) ≤ 32 → (a0 / 2 ^ (ji3).toNat) = ji5 := shr_small hji5
    obtain rfl := Option.some.inj H
    go_enter Try.func29, Try.ntmps29
    go_wp2
    go_ret
    exact ⟨by first | rfl | (simp; done) | (simp only [← hji3, ← hji5] <;> (first | rfl | simp)) | (simp [*]; done), by repeat (first | exact Drawn0.refl _ | apply Drawn0.step)⟩
  · rw [if_neg c4] at H
    exact absurd H (by simp)

/-! ### interregnumref05_Make: function 15 -/
mutual
def interregnumref05_Make.j0 : Nat → Int → Int → Bool → Option (Int × Int × Bool)
  | 0, _, _, _ => none
  | k + 1, x0, x1, x13 => if x13 = true then (some (0, 0, false)) else (interregnumref05_Make.l0 k x0 x1 0 0 x1)
def interregnumref05_Make.l0 : Nat → Int → Int → Int → Int → Int → Option (Int × Int × Bool)
  | 0, _, _, _, _, _ => none
  | k + 1, x0, x1, x7, x158000, x158001 => if x7 < x1 then ((interregnumref05_Bit.f x0 x7).bind fun t158 => (if 0 ≤ (IntKind.u64.wrap (wrap64 (31 - x7))) then (interregnumref05_Make.l0 k x0 x1 (wrap64 (x7 + 1)) ((x158000 + (shl .u32 t158 (IntKind.u64.wrap (wrap64 (31 - x7))))) % 4294967296) x158001) else (none))) else (some (x158000, x158001, true))
end
def interregnumref05_Make.f (k : Nat) (a0 : Int) (a1 : Int) : Option (Int × Int × Bool) := if a1 < 0 then (interregnumref05_Make.j0 k a0 a1 true) else (interregnumref05_Make.j0 k a0 a1 (decide (a1 > 32)))
theorem interregnumref05_Make.mono_l : ∀ k, (∀ y0 y1 y2, LeO (interregnumref05_Make.j0 k y0 y1 y2) (interregnumref05_Make.j0 (k + 1) y0 y1 y2)) ∧ (∀ y0 y1 y2 y3 y4, LeO (interregnumref05_Make.l0 k y0 y1 y2 y3 y4) (interregnumref05_Make.l0 (k + 1) y0 y1 y2 y3 y4))
  | 0 => ⟨fun _ _ _ r h => by simp [interregnumref05_Make.j0] at h, fun _ _ _ _ _ r h => by simp [interregnumref05_Make.l0] at h⟩
  | k + 1 => by
    obtain ⟨ih0, ih1⟩ := interregnumref05_Make.mono_l k
    refine ⟨?_, ?_⟩
    · intro y0 y1 y2
      unfold interregnumref05_Make.j0
      repeat' first
      | (with_reducible exact ih0 _ _ _)
      | (with_reducible exact ih1 _ _ _ _ _)
      | (with_reducible exact LeO.refl _)
      | (with_reducible exact LeO.none _)
      | (with_reducible refine LeO.ite ?_ ?_)
      | (with_reducible refine LeO.bind ?_ (fun _ => ?_))
      | exact ih0 _ _ _
      | exact ih1 _ _ _ _ _
      | exact LeO.none _
      | refine LeO.ite ?_ ?_
      | refine LeO.bind ?_ (fun _ => ?_)
    · intro y0 y1 y2 y3 y4
      unfold interregnumref05_Make.l0
      repeat' first
      | (with_reducible exact ih0 _ _ _)
      | (with_reducible exact ih1 _ _ _ _ _)
      | (with_reducible exact LeO.refl _)
      | (with_reducible exact LeO.none _)
      | (with_reducible refine LeO.ite ?_ ?_)
      | (with_reducible refine LeO.bind ?_ (fun _ => ?_))
      | exact ih0 _ _ _
      | exact ih1 _ _ _ _ _
      | exact LeO.none _
      | refine LeO.ite ?_ ?_
      | refine LeO.bind ?_ (fun _ => ?_)
theorem interregnumref05_Make.mono : ∀ a0 a1 k, LeO (interregnumref05_Make.f k a0 a1) (interregnumref05_Make.f (k + 1) a0 a1) := by
  intro a0 a1 k
  obtain ⟨ih0, ih1⟩ := interregnumref05_Make.mono_l k
  unfold interregnumref05_Make.f
  repeat' first
      | (with_reducible exact ih0 _ _ _)
      | (with_reducible exact ih1 _ _ _ _ _)
      | (with_reducible exact LeO.refl _)
      | (with_reducible exact LeO.none _)
      | (with_reducible refine LeO.ite ?_ ?_)
      | (with_reducible refine LeO.bind ?_ (fun _ => ?_))
      | exact ih0 _ _ _
      | exact ih1 _ _ _ _ _
      | exact LeO.none _
      | refine LeO.ite ?_ ?_
      | refine LeO.bind ?_ (fun _ => ?_)
def interregnumref05_Make.T7 : Bool × List (List Nat × List Nat) := (true, [([], []), ([0], [0]), ([], []), ([], []), ([2, 3], [2, 3]), ([], []), ([5], [5]), ([6], [6]), ([4, 7], [4, 7]), ([1, 8], [1, 8]), ([0, 1, 2, 3, 4, 5, 6, 7, 8, 9], []), ([10, 9, 4, 0, 1, 2, 3, 4, 5, 6, 7, 8, 9], [9, 10])])
def interregnumref05_Make.B7 : List Nat := [0, 1, 0, 0, 12, 0, 32, 96, 252, 511, 1023, 2047]
theorem interregnumref05_Make.tab7 : rtab .any (opsOf Try.f15 7) = interregnumref05_Make.T7 := by kernel_rfl
theorem interregnumref05_Make.bits7 : waitsOk interregnumref05_Make.T7.2 interregnumref05_Make.B7 = true := by kernel_rfl
set_option maxHeartbeats 8000000 in
set_option maxRecDepth 100000 in
theorem interregnumref05_Make.calls (k : Nat) (a0 : Int) (a1 : Int) (r1 : Int) (r2 : Int) (r3 : Bool) (w : World) (h : interregnumref05_Make.f k a0 a1 = some (r1, r2, r3)) :
    Calls Try.prog 15 #[.int .u32 a0, .int .i64 a1] w fun e w' => e = .returned (.tuple #[.agg #[.int .u32 r1, .int .i64 r2], .bool r3]) ∧ Below w.heap.size w w' := by
  have hu32 := Try.underlying32
  have HB := Aside0.mk (Below.refl w.heap.size w)
  have H : (if a1 < 0 then (interregnumref05_Make.j0 k a0 a1 true) else (interregnumref05_Make.j0 k a0 a1 (decide (a1 > 32)))) = some (r1, r2, r3) := h
  clear h
  have HC3 := Aside0.mk H
  clear H
  go_enter Try.func15, Try.ntmps15
  go_upto_region 1 with (first | ((with_reducible refine gate_dst (N := 4) rfl ?_); refine box_event ?hg (N := 4) ?hd (cs := #[.int .u32 0, .int .i64 0]) (t := 32) ?hr ?_; (case hd => rfl); (case hg => rfl); (case hr => first | (go_simp; done) | (go_simp; rfl)); intro gb156 hg w4 hbox hb; have n0_ := Aside0.mk (below_step (by repeat (first | (with_reducible first | exact HB.out | apply below_alloc | apply pw_below_drewN | apply below_drew1) | exact HB.out)) hb); have n1_ := Aside0.mk (hbox); have n2_ := Aside0.mk ((by rw [hg]; exact (below_size (by repeat (first | (with_reducible first | exact HB.out | apply below_alloc | apply pw_below_drewN | apply below_drew1) | exact HB.out))) : w.heap.size ≤ gb156)); have n3_ := Aside0.mk ((by rw [hg]; exact (below_size (by repeat (first | (with_reducible first | exact HB.out | apply below_alloc | apply pw_below_drewN | apply below_drew1) | exact HB.out))) : w.heap.size ≤ gb156)); clear HB; have HB := n0_; have BK156 := n1_; have GW156 := n2_; have GE156 := n3_; clear n0_ n1_ n2_ n3_; clear hb hbox hg))
  (try simp only [Act.put, List.setIfInBounds_toArray, List.set_cons_zero, List.set_cons_succ])
  go_cut [13] (fun v13 wc => ∃ (kq : Nat) (x13_2 : Bool), v13 = .bool x13_2 ∧ Aside0 (interregnumref05_Make.j0 kq a0 a1 x13_2 = some (r1, r2, r3)) ∧ Aside0 (kq ≤ k) ∧ Aside0 (wc.heap[gb156]? = some (.cells #[.int .u32 0, .int .i64 0] 32 (0, 0))) ∧ Aside0 (Below w.heap.size w wc))
  case first =>
    have H := HC3.out
    clear HC3
    by_cases c5 : a1 < 0
    · rw [if_pos c5] at H
      have c5b0 : decide (a1 < 0) = true := decide_eq_true c5
      clear c5
      (first | rw [c5b0] | (simp only [i64_w, i32_w]; rw [c5b0]) | skip)
      have H' := Aside0.mk H
      clear H
      go_wp2
      go_meet
      case rel => exact ⟨_, (true), (by first | rfl | (simp; done) | (simp [*]; done)), H', ⟨by first | omega | exact Nat.le_refl _⟩, ⟨by (with_reducible repeat (first | refine blk_drewN ?_ _ | refine blk_drew ?_ | refine blk_alloc ?_ _)); exact BK156.out⟩, ⟨by repeat (first | (with_reducible first | exact HB.out | apply below_alloc | apply pw_below_drewN | apply below_drew1 | refine below_set ?_ GE156.out) | exact HB.out)⟩⟩
    · rw [if_neg c5] at H
      have c5b0 : decide (a1 < 0) = false := decide_eq_false c5
      clear c5
      (first | rw [c5b0] | (simp only [i64_w, i32_w]; rw [c5b0]) | skip)
      have H' := Aside0.mk H
      clear H
      go_wp2
      go_meet
      case rel => exact ⟨_, (decide (a1 > 32)), (by first | rfl | (simp; done) | (simp [*]; done)), H', ⟨by first | omega | exact Nat.le_refl _⟩, ⟨by (with_reducible repeat (first | refine blk_drewN ?_ _ | refine blk_drew ?_ | refine blk_alloc ?_ _)); exact BK156.out⟩, ⟨by repeat (first | (with_reducible first | exact HB.out | apply below_alloc | apply pw_below_drewN | apply below_drew1 | refine below_set ?_ GE156.out) | exact HB.out)⟩⟩
  case rest =>
    clear HC3
    try clear c1
    try clear p2
    try clear c5
    try clear c5b0
    obtain ⟨kq, x13_2, rfl, HA, HJ2, BK156, HB⟩ := hcut
    cases kq with
    | zero => exact absurd HA.out (by simp [interregnumref05_Make.j0])
    | succ kj2 =>
      have H := HA.out
      clear HA
      simp only [interregnumref05_Make.j0] at H
      by_cases c6 : x13_2 = true
      · subst c6
        have H1 : (some (0, 0, false)) = some (r1, r2, r3) := by rw [if_pos rfl] at H; exact H
        clear H
        have H := H1
        clear H1
        simp only [Option.some.injEq, Prod.mk.injEq] at H
        obtain ⟨rfl, rfl, rfl⟩ := H
        have hcz7_0 : wc.cell? ⟨gb156, 0, none⟩ = some (.int .u32 0) := (blk_cell BK156.out 0).trans rfl
        have hcz7_1 : wc.cell? ⟨gb156, 1, none⟩ = some (.int .i64 0) := (blk_cell BK156.out 1).trans rfl
        have hfz7_0 := blk_frozen BK156.out 0
        have hfz7_1 := blk_frozen BK156.out 1
        go_wp2
        refine bodyPost_ret (results_ct rfl _ _ gb156 32 #[.int .u32 0, .int .i64 0] (0, 0) _ rfl (by (with_reducible repeat (first | refine blk_drewN ?_ _ | refine blk_drew ?_ | refine blk_alloc ?_ _)); refine blk_put (cs := #[.int .u32 0, .int .i64 0]) ?_ 1 _ rfl; (with_reducible repeat (first | refine blk_drewN ?_ _ | refine blk_drew ?_ | refine blk_alloc ?_ _)); refine blk_put (cs := #[.int .u32 0, .int .i64 0]) ?_ 0 _ rfl; (with_reducible repeat (first | refine blk_drewN ?_ _ | refine blk_drew ?_ | refine blk_alloc ?_ _)); exact BK156.out) Try.underlying32 rfl (by kernel_rfl)) rfl ?_
        exact ⟨by first | rfl | (simp [errW_none, errW_some] <;> rfl) | (simp [*, errW_none, errW_some] <;> rfl), by repeat (first | (with_reducible first | exact HB.out | apply below_alloc | apply pw_below_drewN | apply below_drew1 | refine below_set ?_ GE156.out) | exact HB.out)⟩
      · replace c6 := Bool.eq_false_iff.mpr c6
        subst c6
        have H1 : (interregnumref05_Make.l0 kj2 a0 a1 0 0 a1) = some (r1, r2, r3) := by rw [if_neg (show ¬ (false = true) by decide)] at H; exact H
        clear H
        have H := H1
        clear H1
        have H' := Aside0.mk H
        clear H
        go_wp2_with (first | ((with_reducible refine gate_dst (N := 6) rfl ?_); refine box_event ?hg (N := 6) ?hd (cs := #[.int .u32 0, .int .i64 0]) (t := 32) ?hr ?_; (case hd => rfl); (case hg => rfl); (case hr => first | (go_simp; done) | (go_simp; rfl)); intro gb157 hg w8 hbox hb; have n0_ := Aside0.mk (blk_below (g := gb156) (o := .cells #[.int .u32 0, .int .i64 0] 32 (0, 0)) (by (with_reducible repeat (first | refine blk_drewN ?_ _ | refine blk_drew ?_ | refine blk_alloc ?_ _)); exact BK156.out) hb); have n1_ := Aside0.mk (below_step (by repeat (first | (with_reducible first | exact HB.out | apply below_alloc | apply pw_below_drewN | apply below_drew1 | refine below_set ?_ GE156.out) | exact HB.out)) hb); have n2_ := Aside0.mk (hbox); have n3_ := Aside0.mk ((by rw [hg]; exact (below_size (by repeat (first | (with_reducible first | exact HB.out | apply below_alloc | apply pw_below_drewN | apply below_drew1 | refine below_set ?_ GE156.out) | exact HB.out))) : w.heap.size ≤ gb157)); have n4_ := Aside0.mk ((by rw [hg]; exact (below_size (by repeat (first | (with_reducible first | exact HB.out | apply below_alloc | apply pw_below_drewN | apply below_drew1 | refine below_set ?_ GE156.out) | exact HB.out))) : w.heap.size ≤ gb157)); have n5_ := Aside0.mk ((by rw [hg]; exact Nat.ne_of_lt (blk_lt (g := gb156) (o := .cells #[.int .u32 0, .int .i64 0] 32 (0, 0)) (by (with_reducible repeat (first | refine blk_drewN ?_ _ | refine blk_drew ?_ | refine blk_alloc ?_ _)); exact BK156.out)) : gb156 ≠ gb157)); have n6_ := Aside0.mk ((by rw [hg]; exact Nat.ne_of_gt (blk_lt (g := gb156) (o := .cells #[.int .u32 0, .int .i64 0] 32 (0, 0)) (by (with_reducible repeat (first | refine blk_drewN ?_ _ | refine blk_drew ?_ | refine blk_alloc ?_ _)); exact BK156.out)) : gb157 ≠ gb156)); clear BK156; clear HB; have BK156 := n0_; have HB := n1_; have BK157 := n2_; have GW157 := n3_; have GE157 := n4_; have NB156_157 := n5_; have NB157_156 := n6_; clear n0_ n1_ n2_ n3_ n4_ n5_ n6_; clear hb hbox hg; have hnb9 := NB157_156.out; have hnc9 := NB156_157.out; have hcz10_0 : w8.cell? ⟨gb157, 0, none⟩ = some (.int .u32 0) := (blk_cell BK157.out 0).trans rfl; have hcz10_1 : w8.cell? ⟨gb157, 1, none⟩ = some (.int .i64 0) := (blk_cell BK157.out 1).trans rfl; have hfz10_0 := blk_frozen BK157.out 0; have hfz10_1 := blk_frozen BK157.out 1))
        go_loopg [7] kj2 (fun kq v7 w' => ∃ (x7_2 : Int) (x158000_2 : Int), v7 = .int .i64 x7_2 ∧ Aside0 (interregnumref05_Make.l0 kq a0 a1 x7_2 x158000_2 a1 = some (r1, r2, r3)) ∧ Aside0 (kq ≤ kj2) ∧ Aside0 (w'.heap[gb156]? = some (.cells #[.int .u32 0, .int .i64 0] 32 (0, 0))) ∧ Aside0 (w'.heap[gb157]? = some (.cells #[.int .u32 x158000_2, .int .i64 a1] 32 (0, 0))) ∧ Aside0 (Below w.heap.size w w'))
        case atStart => exact ⟨(0), (0), (by first | rfl | (simp; done) | (simp [*]; done)), H', ⟨Nat.le_refl _⟩, ⟨by (with_reducible repeat (first | refine blk_drewN ?_ _ | refine blk_drew ?_ | refine blk_alloc ?_ _)); refine blk_far ?_ NB156_157.out _; (with_reducible repeat (first | refine blk_drewN ?_ _ | refine blk_drew ?_ | refine blk_alloc ?_ _)); refine blk_far ?_ NB156_157.out _; (with_reducible repeat (first | refine blk_drewN ?_ _ | refine blk_drew ?_ | refine blk_alloc ?_ _)); exact BK156.out⟩, ⟨by (with_reducible repeat (first | refine blk_drewN ?_ _ | refine blk_drew ?_ | refine blk_alloc ?_ _)); refine blk_put (cs := #[.int .u32 0, .int .i64 0]) ?_ 1 _ rfl; (with_reducible repeat (first | refine blk_drewN ?_ _ | refine blk_drew ?_ | refine blk_alloc ?_ _)); refine blk_put (cs := #[.int .u32 0, .int .i64 0]) ?_ 0 _ rfl; (with_reducible repeat (first | refine blk_drewN ?_ _ | refine blk_drew ?_ | refine blk_alloc ?_ _)); exact BK157.out⟩, ⟨by repeat (first | (with_reducible first | exact HB.out | apply below_alloc | apply pw_below_drewN | apply below_drew1 | refine below_set ?_ GE156.out | refine below_set ?_ GE157.out) | exact HB.out)⟩⟩
        case round =>
          clear H'
          try clear c1
          try clear p2
          try clear c5
          try clear c5b0
          try clear c6
          try clear c9
          try clear hcz10_0
          try clear hcz10_1
          try clear hcz7_0
          try clear hcz7_1
          try clear hfz10_0
          try clear hfz10_1
          try clear hfz7_0
          try clear hfz7_1
          try clear p2
          obtain ⟨x7_2, x158000_2, rfl, HA, HK2, BK156, BK157, HB⟩ := hrel
          cases gk with
          | zero => exact absurd HA.out (by simp [interregnumref05_Make.l0])
          | succ k2 =>
            have H := HA.out
            clear HA
            simp only [interregnumref05_Make.l0] at H
            by_cases c11 : x7_2 < a1
            · rw [if_pos c11] at H
              have c11b0 : decide (x7_2 < a1) = true := decide_eq_true c11
              clear c11
              replace H := Option.bind_eq_some_iff.mp H
              obtain ⟨t158, A120, H⟩ := H
              replace H : (if 0 ≤ (IntKind.u64.wrap (wrap64 (31 - x7_2))) then (interregnumref05_Make.l0 k2 a0 a1 (wrap64 (x7_2 + 1)) ((x158000_2 + (shl .u32 t158 (IntKind.u64.wrap (wrap64 (31 - x7_2))))) % 4294967296) a1) else (none)) = some (r1, r2, r3) := H
              have A12 := Aside0.mk A120
              clear A120
              obtain ⟨ji13, hji13⟩ : ∃ j_ : Int, (IntKind.u64.wrap (wrap64 (31 - x7_2))) = j_ := ⟨_, rfl⟩
              replace H : (if 0 ≤ (ji13) then (interregnumref05_Make.l0 k2 a0 a1 (wrap64 (x7_2 + 1)) ((x158000_2 + (shl .u32 t158 (ji13))) % 4294967296) a1) else (none)) = some (r1, r2, r3) := by first | (rw [hji13] at H; exact H) | (simp only [hji13] at H ⊢; exact H)
              (try rw [hji13] at A12)
              by_cases c14 : 0 ≤ (ji13)
              · rw [if_pos c14] at H
                have c14b0 := eq_true c14
                have c14b1 : decide (0 ≤ (ji13)) = true := decide_eq_true c14
                clear c14
                obtain ⟨ji15, hji15⟩ : ∃ j_ : Int, (shl .u32 t158 (ji13)) = j_ := ⟨_, rfl⟩
                replace H : (interregnumref05_Make.l0 k2 a0 a1 (wrap64 (x7_2 + 1)) ((x158000_2 + (ji15)) % 4294967296) a1) = some (r1, r2, r3) := by first | (rw [hji15] at H; exact H) | (simp only [hji15] at H ⊢; exact H)
                (try rw [hji15] at A12)
                have hji15_ : (IntKind.u32.wrap (t158 * 2 ^ min (ji13).toNat 32)) = ji15 := hji15
                have hji15z : (ji13) ≤ 32 → (IntKind.u32.wrap (t158 * 2 ^ (ji13).toNat)) = ji15 := shl_small hji15
                have H' := Aside0.mk H
                clear H
                try go_wp2
                have n0_ := Aside0.mk (blk_drew BK156.out)
                have n1_ := Aside0.mk (blk_drew BK157.out)
                have n2_ := Aside0.mk (below_drew1 HB.out)
                clear BK156
                clear BK157
                clear HB
                have BK156 := n0_
                have BK157 := n1_
                have HB := n2_
                clear n0_ n1_ n2_
                refine start_ (n := 12) (S := fun w' => w'.cell? ⟨gb157, 0, none⟩ = some (.int .u32 x158000_2) ∧ w'.cell? ⟨gb157, 1, none⟩ = some (.int .i64 a1)) (ds := [11]) #[false, false, false, false, false, false, false, false, false, false, false, false] (by kernel_rfl) rfl rfl ⟨(blk_cell BK157.out 0).trans rfl, (blk_cell BK157.out 1).trans rfl⟩ (fun hHeld => ?_); refine with_tabW interregnumref05_Make.tab7 interregnumref05_Make.bits7 (fun HT_ HW_ => ?_)
                generalize wr.drew = w16 at BK156 BK157 HB hHeld ⊢
                refine pure_ (i := 0) (N := some 22) (v := ?_) (a' := ?_) #[true, false, false, false, false, false, false, false, false, false, false, false] rfl rfl (any_of HT_.out (by kernel_rfl)) (fun _ _ _ h => h) (Or.inl ⟨by rfl, ?_⟩) ?_ ?_
                rotate_left
                · intro w'
                  go_simp
                  with_reducible rfl
                rotate_left
                · simp only [Act.put, List.setIfInBounds_toArray, List.set_cons_zero, List.set_cons_succ, i64_w, i32_w]
                  rfl
                refine pure_ (i := 2) (N := some 24) (v := ?_) (a' := ?_) #[true, false, true, false, false, false, false, false, false, false, false, false] rfl rfl (any_of HT_.out (by kernel_rfl)) (fun _ _ _ h => h) (Or.inl ⟨by rfl, ?_⟩) ?_ ?_
                rotate_left
                · intro w'
                  go_simp
                  with_reducible rfl
                rotate_left
                · simp only [Act.put, List.setIfInBounds_toArray, List.set_cons_zero, List.set_cons_succ, i64_w, i32_w]
                  rfl
                refine pure_ (i := 3) (N := some 25) (v := ?_) (a' := ?_) #[true, false, true, true, false, false, false, false, false, false, false, false] rfl rfl (any_of HT_.out (by kernel_rfl)) (fun _ _ _ h => h) (Or.inl ⟨by rfl, ?_⟩) ?_ ?_
                rotate_left
                · intro w'
                  go_simp
                  with_reducible rfl
                rotate_left
                · simp only [Act.put, List.setIfInBounds_toArray, List.set_cons_zero, List.set_cons_succ, i64_w, i32_w]
                  rfl
                refine pure_ (i := 5) (N := some 27) (v := ?_) (a' := ?_) #[true, false, true, true, false, true, false, false, false, false, false, false] rfl rfl (any_of HT_.out (by kernel_rfl)) (fun _ _ _ h => h) (Or.inl ⟨by rfl, ?_⟩) ?_ ?_
                rotate_left
                · intro w'
                  go_simp
                  with_reducible rfl
                rotate_left
                · simp only [Act.put, List.setIfInBounds_toArray, List.set_cons_zero, List.set_cons_succ, i64_w, i32_w]
                  rfl
                refine pure_ (i := 6) (N := some 28) (v := ?_) (a' := ?_) #[true, false, true, true, false, true, true, false, false, false, false, false] rfl rfl (any_of HT_.out (by kernel_rfl)) (fun _ _ _ h => h) (Or.inl ⟨by rfl, ?_⟩) ?_ ?_
                rotate_left
                · intro w'
                  go_simp
                  with_reducible rfl
                rotate_left
                · simp only [Act.put, List.setIfInBounds_toArray, List.set_cons_zero, List.set_cons_succ, i64_w, i32_w]
                  rfl
                refine pure_ (i := 7) (N := some 29) (v := ?_) (a' := ?_) #[true, false, true, true, false, true, true, true, false, false, false, false] rfl rfl (any_of HT_.out (by kernel_rfl)) (fun _ _ _ h => h) (Or.inl ⟨by rfl, ?_⟩) ?_ ?_
                rotate_left
                · intro w'
                  go_simp
                  with_reducible rfl
                rotate_left
                · simp only [Act.put, List.setIfInBounds_toArray, List.set_cons_zero, List.set_cons_succ, i64_w, i32_w]
                  rfl
                refine take_ (i := 1) (N := some 23) (v := ?_) (a' := ?_) #[true, true, true, true, false, true, true, true, false, false, false, false] rfl rfl (take_ofW HT_.out HW_.out (by kernel_rfl)) (fun _ _ _ h => h) (Or.inl ⟨by rfl, ?_⟩) hHeld ?_ ?_
                rotate_left
                · rintro w' ⟨s0, s1⟩
                  go_simp
                  with_reducible rfl
                rotate_left
                · simp only [Act.put, List.setIfInBounds_toArray, List.set_cons_zero, List.set_cons_succ, i64_w, i32_w]
                  rfl
                refine one_ (i := 4) (N := some 26) #[true, true, true, true, true, true, true, true, false, false, false, false] rfl rfl (one_of HT_.out (by kernel_rfl)) (by decide) (fun K hK => ?_)
                refine goes_ Try.func29 (by kernel_rfl) rfl #[.int .u32 a0, .int .i64 x7_2] (by rfl) rfl rfl (by (try simp only [List.map_toArray, List.map_cons, List.map_nil]); first | done | rfl | (simp only [List.length_drop, List.length_take]; rfl)) ?_
                with_reducible refine (interregnumref05_Bit.calls a0 x7_2 t158 _ A12.out).mono ?_
                rintro e w' ⟨rfl, ⟨nd, rfl⟩⟩
                refine ⟨_, rfl, ?_⟩
                refine hK.out _ _ ⟨(blk_cell BK157.out 0).trans rfl, (blk_cell BK157.out 1).trans rfl⟩ (fun hHeld => ?_)
                clear hK K
                refine norm_ (a' := ?_) ?_ ?_
                rotate_left
                · show Act.put _ (some 26) _ = _
                  simp only [Act.put, List.setIfInBounds_toArray, List.set_cons_zero, List.set_cons_succ, i64_w, i32_w]
                  rfl
                refine pure_ (i := 8) (N := some 30) (v := ?_) (a' := ?_) #[true, true, true, true, true, true, true, true, true, false, false, false] rfl rfl (any_of HT_.out (by kernel_rfl)) (fun _ _ _ h => h) (Or.inl ⟨by rfl, ?_⟩) ?_ ?_
                rotate_left
                · intro w'
                  go_simp
                  with_reducible rfl
                rotate_left
                · simp only [Act.put, List.setIfInBounds_toArray, List.set_cons_zero, List.set_cons_succ, i64_w, i32_w]
                  rfl
                refine pure_ (i := 9) (N := some 31) (v := ?_) (a' := ?_) #[true, true, true, true, true, true, true, true, true, true, false, false] rfl rfl (any_of HT_.out (by kernel_rfl)) (fun _ _ _ h => h) (Or.inl ⟨by rfl, ?_⟩) ?_ ?_
                rotate_left
                · intro w'
                  go_simp
                  with_reducible rfl
                rotate_left
                · simp only [Act.put, List.setIfInBounds_toArray, List.set_cons_zero, List.set_cons_succ, i64_w, i32_w]
                  rfl
                refine pure_ (i := 10) (N := some 32) (v := ?_) (a' := ?_) #[true, true, true, true, true, true, true, true, true, true, true, false] rfl rfl (any_of HT_.out (by kernel_rfl)) (fun _ _ _ h => h) (Or.inl ⟨by rfl, ?_⟩) ?_ ?_
                rotate_left
                · intro w'
                  go_simp
                  with_reducible rfl
                rotate_left
                · simp only [Act.put, List.setIfInBounds_toArray, List.set_cons_zero, List.set_cons_succ, i64_w, i32_w]
                  rfl
                refine last_ (i := 11) (N := none) #[true, true, true, true, true, true, true, true, true, true, true, true] rfl rfl (one_of HT_.out (by kernel_rfl)) (by decide) (fun K hK => ?_)
                have hs17 : w16.cell? ⟨gb157, 0, none⟩ = some (.int .u32 x158000_2) := (blk_cell BK157.out 0).trans rfl
                have hfs17 := blk_frozen BK157.out 0
                have hns17_0 := NB156_157.out
                have hms17_0 := NB157_156.out
                refine skip_ (w1 := ?_) (by rfl) rfl ?_ ?_
                rotate_left
                · go_simp
                  rfl
                refine hK.out _ _ ?_
                clear hK K
                refine done_ (done_of HT_.out (by kernel_rfl)) ?_
                try go_wp2
                go_roundg k2
                case measure => have := HJ2.out; have := HK2.out; omega
                case rel => exact ⟨(wrap64 (x7_2 + 1)), ((x158000_2 + (ji15)) % 4294967296), (by first | rfl | (simp; done) | (simp [*]; done)), H', ⟨by have := HJ2.out; have := HK2.out; omega⟩, ⟨by (with_reducible repeat (first | refine blk_drewN ?_ _ | refine blk_drew ?_ | refine blk_alloc ?_ _)); refine blk_far ?_ NB156_157.out _; (with_reducible repeat (first | refine blk_drewN ?_ _ | refine blk_drew ?_ | refine blk_alloc ?_ _)); exact BK156.out⟩, ⟨by (with_reducible repeat (first | refine blk_drewN ?_ _ | refine blk_drew ?_ | refine blk_alloc ?_ _)); refine blk_put (cs := #[.int .u32 x158000_2, .int .i64 a1]) ?_ 0 _ rfl; (with_reducible repeat (first | refine blk_drewN ?_ _ | refine blk_drew ?_ | refine blk_alloc ?_ _)); exact BK157.out⟩, ⟨by repeat (first | (with_reducible first | exact HB.out | apply below_alloc | apply pw_below_drewN | apply below_drew1 | refine below_set ?_ GE156.out | refine below_set ?_ GE157.out) | exact HB.out)⟩⟩
              · rw [if_neg c14] at H
                exact absurd H (by simp)
            · rw [if_neg c11] at H
              have c11b0 : decide (x7_2 < a1) = false := decide_eq_false c11
              clear c11
              simp only [Option.some.injEq, Prod.mk.injEq] at H
              obtain ⟨rfl, rfl, rfl⟩ := H
              have hnb18 := NB157_156.out
              have hnc18 := NB156_157.out
              have hcz19_0 : wr.cell? ⟨gb157, 0, none⟩ = some (.int .u32 x158000_2) := (blk_cell BK157.out 0).trans rfl
              have hcz19_1 : wr.cell? ⟨gb157, 1, none⟩ = some (.int .i64 a1) := (blk_cell BK157.out 1).trans rfl
              have hfz19_0 := blk_frozen BK157.out 0
              have hfz19_1 := blk_frozen BK157.out 1
              have hcz20_0 : wr.cell? ⟨gb156, 0, none⟩ = some (.int .u32 0) := (blk_cell BK156.out 0).trans rfl
              have hcz20_1 : wr.cell? ⟨gb156, 1, none⟩ = some (.int .i64 0) := (blk_cell BK156.out 1).trans rfl
              have hfz20_0 := blk_frozen BK156.out 0
              have hfz20_1 := blk_frozen BK156.out 1
              go_wp2
              refine bodyPost_ret (results_ct rfl _ _ gb156 32 #[.int .u32 x158000_2, .int .i64 a1] (0, 0) _ rfl (by (with_reducible repeat (first | refine blk_drewN ?_ _ | refine blk_drew ?_ | refine blk_alloc ?_ _)); refine blk_put (cs := #[.int .u32 x158000_2, .int .i64 0]) ?_ 1 _ rfl; (with_reducible repeat (first | refine blk_drewN ?_ _ | refine blk_drew ?_ | refine blk_alloc ?_ _)); refine blk_put (cs := #[.int .u32 0, .int .i64 0]) ?_ 0 _ rfl; (with_reducible repeat (first | refine blk_drewN ?_ _ | refine blk_drew ?_ | refine blk_alloc ?_ _)); exact BK156.out) Try.underlying32 rfl (by kernel_rfl)) rfl ?_
              exact ⟨by first | rfl | (simp [errW_none, errW_some] <;> rfl) | (simp [*, errW_none, errW_some] <;> rfl), by repeat (first | (with_reducible first | exact HB.out | apply below_alloc | apply pw_below_drewN | apply below_drew1 | refine below_set ?_ GE156.out | refine below_set ?_ GE157.out) | exact HB.out)⟩

/-! ### interregnumref01_Num: function 33 -/
def interregnumref01_Num.f (l0 : List Int) : Option (Int) := if 0 < (l0.length : Int) then (if 1 < (l0.length : Int) then (if 2 < (l0.length : Int) then (if 3 < (l0.length : Int) then (some (wrap64 ((wrap64 ((wrap64 ((wrap64 ((wrap64 (rd l0 0)) * 16777216)) + (wrap64 ((wrap64 (rd l0 1)) * 65536)))) + (wrap64 ((wrap64 (rd l0 2)) * 256)))) + (wrap64 (rd l0 3))))) else (none)) else (none)) else (none)) else (none)
set_option maxHeartbeats 8000000 in
set_option maxRecDepth 100000 in
theorem interregnumref01_Num.calls (A0 : Option Addr) (c0 : Nat) (l0 : List Int) (r : Int) (w : World) (hr0 : Kd.C (Kd.int .u8) w A0 l0.length l0) (hc0 : l0.length ≤ c0) (h : interregnumref01_Num.f l0 = some r) :
    Calls Try.prog 33 #[.slice A0 l0.length c0] w fun e w' => e = .returned (.int .i64 r) ∧ Drawn0 w w' := by
  have HR0 := Aside0.mk hr0
  have HC0 := Aside0.mk hc0
  clear hr0 hc0
  have H : (if 0 < (l0.length : Int) then (if 1 < (l0.length : Int) then (if 2 < (l0.length : Int) then (if 3 < (l0.length : Int) then (some (wrap64 ((wrap64 ((wrap64 ((wrap64 ((wrap64 (rd l0 0)) * 16777216)) + (wrap64 ((wrap64 (rd l0 1)) * 65536)))) + (wrap64 ((wrap64 (rd l0 2)) * 256)))) + (wrap64 (rd l0 3))))) else (none)) else (none)) else (none)) else (none)) = some r := h
  clear h
  by_cases c2 : 0 < (l0.length : Int)
  · rw [if_pos c2] at H
    have c2b0 : decide (0 < (l0.length : Int)) = true := decide_eq_true c2
    have c2b1 : decide (0 < l0.length) = true := decide_eq_true (by omega)
    clear c2
    by_cases c3 : 1 < (l0.length : Int)
    · rw [if_pos c3] at H
      have c3b0 : decide (1 < (l0.length : Int)) = true := decide_eq_true c3
      have c3b1 : decide (1 < l0.length) = true := decide_eq_true (by omega)
      clear c3
      by_cases c4 : 2 < (l0.length : Int)
      · rw [if_pos c4] at H
        have c4b0 : decide (2 < (l0.length : Int)) = true := decide_eq_true c4
        have c4b1 : decide (2 < l0.length) = true := decide_eq_true (by omega)
        clear c4
        by_cases c5 : 3 < (l0.length : Int)
        · rw [if_pos c5] at H
          have c5b0 : decide (3 < (l0.length : Int)) = true := decide_eq_true c5
          have c5b1 : decide (3 < l0.length) = true := decide_eq_true (by omega)
          clear c5
          obtain rfl := Option.some.inj H
          have p159 : 0 ≤ (0 : Int) := (by omega)
          have q159 : 0 < (l0.length : Int) := of_decide_eq_true (by first | (with_reducible assumption) | assumption)
          obtain ⟨ad159, e159, hx159_0⟩ := Kd.at_int HR0.out 0 p159 q159
          cases e159
          have qi159 : (0 < l0.length) = True := eq_true (by omega)
          (try rw [show ((0 : Int)).toNat = 0 from rfl] at hx159_0)
          (try rw [Addr.add_zero'] at hx159_0)
          replace p159 := eq_true p159
          replace q159 := eq_true q159
          have p160 : 0 ≤ (1 : Int) := (by omega)
          have q160 : 1 < (l0.length : Int) := of_decide_eq_true (by first | (with_reducible assumption) | assumption)
          obtain ⟨ad160, e160, hx160_0⟩ := Kd.at_int HR0.out 1 p160 q160
          obtain rfl : ad159 = ad160 := (by injection e160)
          (try simp only [show (1 : Int).toNat = 1 from rfl, Nat.reduceMul, Nat.reduceEqDiff, Go.Addr.add, ↓reduceIte] at hx160_0)
          have qi160 : (1 < l0.length) = True := eq_true (by omega)
          (try rw [show ((1 : Int)).toNat = 1 from rfl] at hx160_0)
          replace p160 := eq_true p160
          replace q160 := eq_true q160
          have p161 : 0 ≤ (2 : Int) := (by omega)
          have q161 : 2 < (l0.length : Int) := of_decide_eq_true (by first | (with_reducible assumption) | assumption)
          obtain ⟨ad161, e161, hx161_0⟩ := Kd.at_int HR0.out 2 p161 q161
          obtain rfl : ad159 = ad161 := (by injection e161)
          (try simp only [show (2 : Int).toNat = 2 from rfl, Nat.reduceMul, Nat.reduceEqDiff, Go.Addr.add, ↓reduceIte] at hx161_0)
          have qi161 : (2 < l0.length) = True := eq_true (by omega)
          (try rw [show ((2 : Int)).toNat = 2 from rfl] at hx161_0)
          replace p161 := eq_true p161
          replace q161 := eq_true q161
          have p162 : 0 ≤ (3 : Int) := (by omega)
          have q162 : 3 < (l0.length : Int) := of_decide_eq_true (by first | (with_reducible assumption) | assumption)
          obtain ⟨ad162, e162, hx162_0⟩ := Kd.at_int HR0.out 3 p162 q162
          obtain rfl : ad159 = ad162 := (by injection e162)
          (try simp only [show (3 : Int).toNat = 3 from rfl, Nat.reduceMul, Nat.reduceEqDiff, Go.Addr.add, ↓reduceIte] at hx162_0)
          have qi162 : (3 < l0.length) = True := eq_true (by omega)
          (try rw [show ((3 : Int)).toNat = 3 from rfl] at hx162_0)
          replace p162 := eq_true p162
          replace q162 := eq_true q162
          go_enter Try.func33, Try.ntmps33
          go_wp2
          repeat (go_quiet (fail); try go_wp2)
          go_ret
          exact ⟨by first | rfl | (simp; done) | (simp [*]; done), by repeat (first | exact Drawn0.refl _ | apply Drawn0.step)⟩
        · rw [if_neg c5] at H
          exact absurd H (by simp)
      · rw [if_neg c4] at H
        exact absurd H (by simp)
    · rw [if_neg c3] at H
      exact absurd H (by simp)
  · rw [if_neg c2] at H
    exact absurd H (by simp)

/-! ### interregnumref05_ReadPrefixes: function 23 -/
mutual
def interregnumref05_ReadPrefixes.l0 : Nat → List Int → List (S32) → Int → Option ((List (S32)) × Bool)
  | 0, _, _, _ => none
  | k + 1, x0, x4, x5 => if x5 < (x0.length : Int) then (if 0 ≤ x5 then (if (wrap64 (rd x0 x5)) > 32 then (interregnumref05_ReadPrefixes.j1 k x0 x4 x5 (wrap64 (rd x0 x5)) (wrap64 (Int.tdiv (wrap64 ((wrap64 (rd x0 x5)) + 7)) 8)) true) else (interregnumref05_ReadPrefixes.j1 k x0 x4 x5 (wrap64 (rd x0 x5)) (wrap64 (Int.tdiv (wrap64 ((wrap64 (rd x0 x5)) + 7)) 8)) (decide ((wrap64 ((wrap64 (x5 + 1)) + (wrap64 (Int.tdiv (wrap64 ((wrap64 (rd x0 x5)) + 7)) 8)))) > (x0.length : Int))))) else (none)) else (some (x4, true))
def interregnumref05_ReadPrefixes.j1 : Nat → List Int → List (S32) → Int → Int → Int → Bool → Option ((List (S32)) × Bool)
  | 0, _, _, _, _, _, _ => none
  | k + 1, x0, x4, x5, x6, x7, x33 => if x33 = true then (some (([] : List (S32)), false)) else ((some (([] : List Int) : List Int)).bind fun y164 => (if 0 ≤ (wrap64 (x5 + 1)) then (if (wrap64 (x5 + 1)) ≤ (wrap64 ((wrap64 (x5 + 1)) + x7)) then (if (wrap64 ((wrap64 (x5 + 1)) + x7)) ≤ (x0.length : Int) then (if y164.length + ((x0.take ((wrap64 ((wrap64 (x5 + 1)) + x7)) : Int).toNat).drop ((wrap64 (x5 + 1)) : Int).toNat).length < 140737488355328 then ((some (y164 ++ ((x0.take ((wrap64 ((wrap64 (x5 + 1)) + x7)) : Int).toNat).drop ((wrap64 (x5 + 1)) : Int).toNat) : List Int)).bind fun y168 => ((some (([0, 0, 0, 0] : List Int) : List Int)).bind fun y171 => (if y168.length + y171.length < 140737488355328 then ((interregnumref01_Num.f (y168 ++ y171)).bind fun t177 => ((interregnumref05_Make.f k ((t177) % 4294967296) x6).bind fun bt178 => (if x4.length < 8796093022208 then (interregnumref05_ReadPrefixes.l0 k x0 (x4 ++ [(⟨bt178.1, bt178.2.1⟩ : S32)]) (wrap64 ((wrap64 (x5 + 1)) + x7))) else (none)))) else (none)))) else (none)) else (none)) else (none)) else (none)))
end
def interregnumref05_ReadPrefixes.f (k : Nat) (l0 : List Int) : Option ((List (S32)) × Bool) := interregnumref05_ReadPrefixes.l0 k l0 ([] : List (S32)) 0
theorem interregnumref05_ReadPrefixes.mono_l : ∀ k, (∀ y0 y1 y2, LeO (interregnumref05_ReadPrefixes.l0 k y0 y1 y2) (interregnumref05_ReadPrefixes.l0 (k + 1) y0 y1 y2)) ∧ (∀ y0 y1 y2 y3 y4 y5, LeO (interregnumref05_ReadPrefixes.j1 k y0 y1 y2 y3 y4 y5) (interregnumref05_ReadPrefixes.j1 (k + 1) y0 y1 y2 y3 y4 y5))
  | 0 => ⟨fun _ _ _ r h => by simp [interregnumref05_ReadPrefixes.l0] at h, fun _ _ _ _ _ _ r h => by simp [interregnumref05_ReadPrefixes.j1] at h⟩
  | k + 1 => by
    obtain ⟨ih0, ih1⟩ := interregnumref05_ReadPrefixes.mono_l k
    refine ⟨?_, ?_⟩
    · intro y0 y1 y2
      unfold interregnumref05_ReadPrefixes.l0
      repeat' first
      | (with_reducible exact ih0 _ _ _)
      | (with_reducible exact ih1 _ _ _ _ _ _)
      | (with_reducible exact interregnumref05_Make.mono _ _ _)
      | (with_reducible exact LeO.refl _)
      | (with_reducible exact LeO.none _)
      | (with_reducible refine LeO.ite ?_ ?_)
      | (with_reducible refine LeO.bind ?_ (fun _ => ?_))
      | exact ih0 _ _ _
      | exact ih1 _ _ _ _ _ _
      | exact interregnumref05_Make.mono _ _ _
      | exact LeO.none _
      | refine LeO.ite ?_ ?_
      | refine LeO.bind ?_ (fun _ => ?_)
    · intro y0 y1 y2 y3 y4 y5
      unfold interregnumref05_ReadPrefixes.j1
      repeat' first
      | (with_reducible exact ih0 _ _ _)
      | (with_reducible exact ih1 _ _ _ _ _ _)
      | (with_reducible exact interregnumref05_Make.mono _ _ _)
      | (with_reducible exact LeO.refl _)
      | (with_reducible exact LeO.none _)
      | (with_reducible refine LeO.ite ?_ ?_)
      | (with_reducible refine LeO.bind ?_ (fun _ => ?_))
      | exact ih0 _ _ _
      | exact ih1 _ _ _ _ _ _
      | exact interregnumref05_Make.mono _ _ _
      | exact LeO.none _
      | refine LeO.ite ?_ ?_
      | refine LeO.bind ?_ (fun _ => ?_)
theorem interregnumref05_ReadPrefixes.mono : ∀ a0 k, LeO (interregnumref05_ReadPrefixes.f k a0) (interregnumref05_ReadPrefixes.f (k + 1) a0) := by
  intro a0 k
  obtain ⟨ih0, ih1⟩ := interregnumref05_ReadPrefixes.mono_l k
  unfold interregnumref05_ReadPrefixes.f
  repeat' first
      | (with_reducible exact ih0 _ _ _)
      | (with_reducible exact ih1 _ _ _ _ _ _)
      | (with_reducible exact interregnumref05_Make.mono _ _ _)
      | (with_reducible exact LeO.refl _)
      | (with_reducible exact LeO.none _)
      | (with_reducible refine LeO.ite ?_ ?_)
      | (with_reducible refine LeO.bind ?_ (fun _ => ?_))
      | exact ih0 _ _ _
      | exact ih1 _ _ _ _ _ _
      | exact interregnumref05_Make.mono _ _ _
      | exact LeO.none _
      | refine LeO.ite ?_ ?_
      | refine LeO.bind ?_ (fun _ => ?_)
set_option maxHeartbeats 8000000 in
set_option maxRecDepth 100000 in
theorem interregnumref05_ReadPrefixes.calls (k : Nat) (A0 : Option Addr) (c0 : Nat) (l0 : List Int) (r1 : List (S32)) (r2 : Bool) (w : World) (hr0 : Kd.C (Kd.int .u8) w A0 l0.length l0) (hc0 : l0.length ≤ c0) (h : interregnumref05_ReadPrefixes.f k l0 = some (r1, r2)) :
    Calls Try.prog 23 #[.slice A0 l0.length c0] w fun e w' => ∃ v0_ : Value, e = .returned (.tuple #[v0_, .bool r2]) ∧ Kd.R k32 32 w' w.heap.size (fun _ => True) v0_ r1 ∧ Below w.heap.size w w' := by
  have hu32 := Try.underlying32
  have HR0 := Aside0.mk hr0
  have HC0 := Aside0.mk hc0
  clear hr0 hc0
  have HB := Aside0.mk (Below.refl w.heap.size w)
  have H : (interregnumref05_ReadPrefixes.l0 k l0 ([] : List (S32)) 0) = some (r1, r2) := h
  clear h
  have H' := Aside0.mk H
  clear H
  go_enter Try.func23, Try.ntmps23
  go_wp2
  go_loopg [4, 5] k (fun kq v4 v5 w' => ∃ (x4_1 : List (S32)) (x5_1 : Int), v5 = .int .i64 x5_1 ∧ Aside0 (interregnumref05_ReadPrefixes.l0 kq l0 x4_1 x5_1 = some (r1, r2)) ∧ Aside0 (kq ≤ k) ∧ Aside0 (Kd.R k32 32 w' w.heap.size (fun _ => True) v4 x4_1) ∧ Aside0 (Below w.heap.size w w'))
  case atStart => exact ⟨(([] : List (S32))), (0), (by first | rfl | (simp; done) | (simp [*]; done)), H', ⟨Nat.le_refl _⟩, ⟨by first | exact Kd.R_nil _ _ _ _ _ | exact Kd.N_nil _ _ _ _ _ | exact Kd.V_nil _ _ _ _ _ | exact Kd.Q_nil _ _ _ _ _ | exact Kd.S_nil _ _ _ _ _⟩, ⟨by repeat (first | (with_reducible first | exact HB.out | apply below_alloc | apply pw_below_drewN | apply below_drew1) | exact HB.out)⟩⟩
  case round =>
    clear H'
    obtain ⟨x4_1, x5_1, rfl, HA, HK1, HO_4, HB⟩ := hrel
    cases gk with
    | zero => exact absurd HA.out (by simp [interregnumref05_ReadPrefixes.l0])
    | succ k1 =>
      have H := HA.out
      clear HA
      simp only [interregnumref05_ReadPrefixes.l0] at H
      by_cases c2 : x5_1 < (l0.length : Int)
      · rw [if_pos c2] at H
        have c2b0 : decide (x5_1 < (l0.length : Int)) = true := decide_eq_true c2
        clear c2
        by_cases c3 : 0 ≤ x5_1
        · rw [if_pos c3] at H
          have c3b0 : decide (0 ≤ x5_1) = true := decide_eq_true c3
          clear c3
          have HC4 := Aside0.mk H
          clear H
          have p163 : 0 ≤ (x5_1 : Int) := of_decide_eq_true (by first | (with_reducible assumption) | assumption)
          have q163 : x5_1 < (l0.length : Int) := of_decide_eq_true (by first | (with_reducible assumption) | assumption)
          obtain ⟨ad163, e163, hx163_0⟩ := Kd.at_int HR0.out x5_1 p163 q163
          cases e163
          replace hx163_0 := (HB.out.cell (World.block_lt_of_cell? w _ hx163_0)).trans hx163_0
          replace p163 := eq_true p163
          replace q163 := eq_true q163
          go_upto_region 6 with (fail)
          go_cut [33] (fun v33 wc => ∃ (kq : Nat) (x33_3 : Bool), v33 = .bool x33_3 ∧ Aside0 (interregnumref05_ReadPrefixes.j1 kq l0 x4_1 x5_1 (wrap64 (rd l0 x5_1)) (wrap64 (Int.tdiv (wrap64 ((wrap64 (rd l0 x5_1)) + 7)) 8)) x33_3 = some (r1, r2)) ∧ Aside0 (kq ≤ k1) ∧ Aside0 (Kd.R k32 32 wc w.heap.size (fun _ => True) u4 x4_1) ∧ Aside0 (Below w.heap.size w wc))
          case first =>
            have H := HC4.out
            clear HC4
            by_cases c5 : (wrap64 (rd l0 x5_1)) > 32
            · rw [if_pos c5] at H
              have c5b0 : decide (32 < (wrap64 (rd l0 x5_1))) = true := decide_eq_true c5
              clear c5
              (first | rw [c5b0] | (simp only [i64_w, i32_w]; rw [c5b0]) | skip)
              have H' := Aside0.mk H
              clear H
              go_wp2
              go_meet
              case rel => exact ⟨_, (true), (by first | rfl | (simp; done) | (simp [*]; done)), H', ⟨by have := HK1.out; first | omega | exact Nat.le_refl _⟩, ⟨by (with_reducible repeat (first | apply Kd.R_alloc | apply Kd.R_drewN | apply Kd.R_drew)); exact HO_4.out⟩, ⟨by repeat (first | (with_reducible first | exact HB.out | apply below_alloc | apply pw_below_drewN | apply below_drew1) | exact HB.out)⟩⟩
            · rw [if_neg c5] at H
              have c5b0 : decide (32 < (wrap64 (rd l0 x5_1))) = false := decide_eq_false c5
              clear c5
              (first | rw [c5b0] | (simp only [i64_w, i32_w]; rw [c5b0]) | skip)
              have H' := Aside0.mk H
              clear H
              go_wp2
              go_meet
              case rel => exact ⟨_, (decide ((wrap64 ((wrap64 (x5_1 + 1)) + (wrap64 (Int.tdiv (wrap64 ((wrap64 (rd l0 x5_1)) + 7)) 8)))) > (l0.length : Int))), (by first | rfl | (simp; done) | (simp [*]; done)), H', ⟨by have := HK1.out; first | omega | exact Nat.le_refl _⟩, ⟨by (with_reducible repeat (first | apply Kd.R_alloc | apply Kd.R_drewN | apply Kd.R_drew)); exact HO_4.out⟩, ⟨by repeat (first | (with_reducible first | exact HB.out | apply below_alloc | apply pw_below_drewN | apply below_drew1) | exact HB.out)⟩⟩
          case rest =>
            clear HC4
            try clear p1
            try clear q1
            try clear hx1
            try clear c2
            try clear c2b0
            try clear p2
            try clear c3
            try clear c3b0
            try clear c5
            try clear c5b0
            try clear hx163_0
            try clear p163
            try clear q163
            obtain ⟨kq, x33_3, rfl, HA, HJ3, HO_4, HB⟩ := hcut
            cases kq with
            | zero => exact absurd HA.out (by simp [interregnumref05_ReadPrefixes.j1])
            | succ kj3 =>
              have H := HA.out
              clear HA
              simp only [interregnumref05_ReadPrefixes.j1] at H
              by_cases c6 : x33_3 = true
              · subst c6
                have H1 : (some (([] : List (S32)), false)) = some (r1, r2) := by rw [if_pos rfl] at H; exact H
                clear H
                have H := H1
                clear H1
                simp only [Option.some.injEq, Prod.mk.injEq] at H
                obtain ⟨rfl, rfl⟩ := H
                go_wp2
                go_ret2
                exact ⟨_, by first | rfl | (simp [errW_none, errW_some] <;> rfl) | (simp [*, errW_none, errW_some] <;> rfl), by first | exact Kd.R_nil _ _ _ _ _ | exact Kd.N_nil _ _ _ _ _ | exact Kd.V_nil _ _ _ _ _ | exact Kd.Q_nil _ _ _ _ _ | exact Kd.S_nil _ _ _ _ _, by repeat (first | (with_reducible first | exact HB.out | apply below_alloc | apply pw_below_drewN | apply below_drew1) | exact HB.out)⟩
              · replace c6 := Bool.eq_false_iff.mpr c6
                subst c6
                have H1 : ((some (([] : List Int) : List Int)).bind fun y164 => (if 0 ≤ (wrap64 (x5_1 + 1)) then (if (wrap64 (x5_1 + 1)) ≤ (wrap64 ((wrap64 (x5_1 + 1)) + (wrap64 (Int.tdiv (wrap64 ((wrap64 (rd l0 x5_1)) + 7)) 8)))) then (if (wrap64 ((wrap64 (x5_1 + 1)) + (wrap64 (Int.tdiv (wrap64 ((wrap64 (rd l0 x5_1)) + 7)) 8)))) ≤ (l0.length : Int) then (if y164.length + ((l0.take ((wrap64 ((wrap64 (x5_1 + 1)) + (wrap64 (Int.tdiv (wrap64 ((wrap64 (rd l0 x5_1)) + 7)) 8)))) : Int).toNat).drop ((wrap64 (x5_1 + 1)) : Int).toNat).length < 140737488355328 then ((some (y164 ++ ((l0.take ((wrap64 ((wrap64 (x5_1 + 1)) + (wrap64 (Int.tdiv (wrap64 ((wrap64 (rd l0 x5_1)) + 7)) 8)))) : Int).toNat).drop ((wrap64 (x5_1 + 1)) : Int).toNat) : List Int)).bind fun y168 => ((some (([0, 0, 0, 0] : List Int) : List Int)).bind fun y171 => (if y168.length + y171.length < 140737488355328 then ((interregnumref01_Num.f (y168 ++ y171)).bind fun t177 => ((interregnumref05_Make.f kj3 ((t177) % 4294967296) (wrap64 (rd l0 x5_1))).bind fun bt178 => (if x4_1.length < 8796093022208 then (interregnumref05_ReadPrefixes.l0 kj3 l0 (x4_1 ++ [(⟨bt178.1, bt178.2.1⟩ : S32)]) (wrap64 ((wrap64 (x5_1 + 1)) + (wrap64 (Int.tdiv (wrap64 ((wrap64 (rd l0 x5_1)) + 7)) 8))))) else (none)))) else (none)))) else (none)) else (none)) else (none)) else (none))) = some (r1, r2) := by rw [if_neg (show ¬ (false = true) by decide)] at H; exact H
                clear H
                have H := H1
                clear H1
                obtain ⟨y164, hy164⟩ : ∃ y_ : List Int, y_ = (([] : List Int)) := ⟨_, rfl⟩
                replace H : (if 0 ≤ (wrap64 (x5_1 + 1)) then (if (wrap64 (x5_1 + 1)) ≤ (wrap64 ((wrap64 (x5_1 + 1)) + (wrap64 (Int.tdiv (wrap64 ((wrap64 (rd l0 x5_1)) + 7)) 8)))) then (if (wrap64 ((wrap64 (x5_1 + 1)) + (wrap64 (Int.tdiv (wrap64 ((wrap64 (rd l0 x5_1)) + 7)) 8)))) ≤ (l0.length : Int) then (if y164.length + ((l0.take ((wrap64 ((wrap64 (x5_1 + 1)) + (wrap64 (Int.tdiv (wrap64 ((wrap64 (rd l0 x5_1)) + 7)) 8)))) : Int).toNat).drop ((wrap64 (x5_1 + 1)) : Int).toNat).length < 140737488355328 then ((some (y164 ++ ((l0.take ((wrap64 ((wrap64 (x5_1 + 1)) + (wrap64 (Int.tdiv (wrap64 ((wrap64 (rd l0 x5_1)) + 7)) 8)))) : Int).toNat).drop ((wrap64 (x5_1 + 1)) : Int).toNat) : List Int)).bind fun y168 => ((some (([0, 0, 0, 0] : List Int) : List Int)).bind fun y171 => (if y168.length + y171.length < 140737488355328 then ((interregnumref01_Num.f (y168 ++ y171)).bind fun t177 => ((interregnumref05_Make.f kj3 ((t177) % 4294967296) (wrap64 (rd l0 x5_1))).bind fun bt178 => (if x4_1.length < 8796093022208 then (interregnumref05_ReadPrefixes.l0 kj3 l0 (x4_1 ++ [(⟨bt178.1, bt178.2.1⟩ : S32)]) (wrap64 ((wrap64 (x5_1 + 1)) + (wrap64 (Int.tdiv (wrap64 ((wrap64 (rd l0 x5_1)) + 7)) 8))))) else (none)))) else (none)))) else (none)) else (none)) else (none)) else (none)) = some (r1, r2) := by first | (rw [hy164]; with_reducible exact H) | (have H2_ := (Option.bind_some _ _).symm.trans H; rw [hy164]; with_reducible exact H2_) | (have H2_ := (Option.bind_some _ _).symm.trans H; with_reducible exact H2_) | with_reducible exact H | (rw [hy164]; exact H) | exact H
                have Ny164 := Aside0.mk hy164
                clear hy164
                obtain ⟨ji7, hji7⟩ : ∃ j_ : Int, (wrap64 (x5_1 + 1)) = j_ := ⟨_, rfl⟩
                replace H : (if 0 ≤ (ji7) then (if (ji7) ≤ (wrap64 ((ji7) + (wrap64 (Int.tdiv (wrap64 ((wrap64 (rd l0 x5_1)) + 7)) 8)))) then (if (wrap64 ((ji7) + (wrap64 (Int.tdiv (wrap64 ((wrap64 (rd l0 x5_1)) + 7)) 8)))) ≤ (l0.length : Int) then (if y164.length + ((l0.take ((wrap64 ((ji7) + (wrap64 (Int.tdiv (wrap64 ((wrap64 (rd l0 x5_1)) + 7)) 8)))) : Int).toNat).drop ((ji7) : Int).toNat).length < 140737488355328 then ((some (y164 ++ ((l0.take ((wrap64 ((ji7) + (wrap64 (Int.tdiv (wrap64 ((wrap64 (rd l0 x5_1)) + 7)) 8)))) : Int).toNat).drop ((ji7) : Int).toNat) : List Int)).bind fun y168 => ((some (([0, 0, 0, 0] : List Int) : List Int)).bind fun y171 => (if y168.length + y171.length < 140737488355328 then ((interregnumref01_Num.f (y168 ++ y171)).bind fun t177 => ((interregnumref05_Make.f kj3 ((t177) % 4294967296) (wrap64 (rd l0 x5_1))).bind fun bt178 => (if x4_1.length < 8796093022208 then (interregnumref05_ReadPrefixes.l0 kj3 l0 (x4_1 ++ [(⟨bt178.1, bt178.2.1⟩ : S32)]) (wrap64 ((ji7) + (wrap64 (Int.tdiv (wrap64 ((wrap64 (rd l0 x5_1)) + 7)) 8))))) else (none)))) else (none)))) else (none)) else (none)) else (none)) else (none)) = some (r1, r2) := by first | (rw [hji7] at H; exact H) | (simp only [hji7] at H ⊢; exact H)
                have hji7w : (IntKind.i64.wrap (x5_1 + 1)) = ji7 := (i64_w _).trans hji7
                by_cases c8 : 0 ≤ (ji7)
                · rw [if_pos c8] at H
                  have c8b0 := eq_true c8
                  have c8b1 : decide (0 ≤ (ji7)) = true := decide_eq_true c8
                  clear c8
                  by_cases c9 : (ji7) ≤ (wrap64 ((ji7) + (wrap64 (Int.tdiv (wrap64 ((wrap64 (rd l0 x5_1)) + 7)) 8))))
                  · rw [if_pos c9] at H
                    have c9b0 := eq_true c9
                    have c9b1 : decide ((ji7) ≤ (wrap64 ((ji7) + (wrap64 (Int.tdiv (wrap64 ((wrap64 (rd l0 x5_1)) + 7)) 8))))) = true := decide_eq_true c9
                    by_cases c10 : (wrap64 ((ji7) + (wrap64 (Int.tdiv (wrap64 ((wrap64 (rd l0 x5_1)) + 7)) 8)))) ≤ (l0.length : Int)
                    · rw [if_pos c10] at H
                      have c10b0 := eq_true c10
                      have c10b1 : decide ((wrap64 ((ji7) + (wrap64 (Int.tdiv (wrap64 ((wrap64 (rd l0 x5_1)) + 7)) 8)))) ≤ (l0.length : Int)) = true := decide_eq_true c10
                      by_cases c11 : y164.length + ((l0.take ((wrap64 ((ji7) + (wrap64 (Int.tdiv (wrap64 ((wrap64 (rd l0 x5_1)) + 7)) 8)))) : Int).toNat).drop ((ji7) : Int).toNat).length < 140737488355328
                      · rw [if_pos c11] at H
                        have LMc11 := Aside0.mk c11
                        clear c11
                        obtain ⟨y168, hy168⟩ : ∃ y_ : List Int, y_ = (y164 ++ ((l0.take ((wrap64 ((ji7) + (wrap64 (Int.tdiv (wrap64 ((wrap64 (rd l0 x5_1)) + 7)) 8)))) : Int).toNat).drop ((ji7) : Int).toNat)) := ⟨_, rfl⟩
                        replace H : ((some (([0, 0, 0, 0] : List Int) : List Int)).bind fun y171 => (if y168.length + y171.length < 140737488355328 then ((interregnumref01_Num.f (y168 ++ y171)).bind fun t177 => ((interregnumref05_Make.f kj3 ((t177) % 4294967296) (wrap64 (rd l0 x5_1))).bind fun bt178 => (if x4_1.length < 8796093022208 then (interregnumref05_ReadPrefixes.l0 kj3 l0 (x4_1 ++ [(⟨bt178.1, bt178.2.1⟩ : S32)]) (wrap64 ((ji7) + (wrap64 (Int.tdiv (wrap64 ((wrap64 (rd l0 x5_1)) + 7)) 8))))) else (none)))) else (none))) = some (r1, r2) := by first | (rw [hy168]; with_reducible exact H) | (have H2_ := (Option.bind_some _ _).symm.trans H; rw [hy168]; with_reducible exact H2_) | (have H2_ := (Option.bind_some _ _).symm.trans H; with_reducible exact H2_) | with_reducible exact H | (rw [hy168]; exact H) | exact H
                        have Ny168 := Aside0.mk hy168
                        clear hy168
                        obtain ⟨y171, hy171⟩ : ∃ y_ : List Int, y_ = (([0, 0, 0, 0] : List Int)) := ⟨_, rfl⟩
                        replace H : (if y168.length + y171.length < 140737488355328 then ((interregnumref01_Num.f (y168 ++ y171)).bind fun t177 => ((interregnumref05_Make.f kj3 ((t177) % 4294967296) (wrap64 (rd l0 x5_1))).bind fun bt178 => (if x4_1.length < 8796093022208 then (interregnumref05_ReadPrefixes.l0 kj3 l0 (x4_1 ++ [(⟨bt178.1, bt178.2.1⟩ : S32)]) (wrap64 ((ji7) + (wrap64 (Int.tdiv (wrap64 ((wrap64 (rd l0 x5_1)) + 7)) 8))))) else (none)))) else (none)) = some (r1, r2) := by first | (rw [hy171]; with_reducible exact H) | (have H2_ := (Option.bind_some _ _).symm.trans H; rw [hy171]; with_reducible exact H2_) | (have H2_ := (Option.bind_some _ _).symm.trans H; with_reducible exact H2_) | with_reducible exact H | (rw [hy171]; exact H) | exact H
                        have Ny171 := Aside0.mk hy171
                        clear hy171
                        by_cases c12 : y168.length + y171.length < 140737488355328
                        · rw [if_pos c12] at H
                          have LMc12 := Aside0.mk c12
                          clear c12
                          obtain ⟨y174, hy174⟩ : ∃ y_ : List Int, y_ = (y168 ++ y171) := ⟨_, rfl⟩
                          replace H : ((interregnumref01_Num.f y174).bind fun t177 => ((interregnumref05_Make.f kj3 ((t177) % 4294967296) (wrap64 (rd l0 x5_1))).bind fun bt178 => (if x4_1.length < 8796093022208 then (interregnumref05_ReadPrefixes.l0 kj3 l0 (x4_1 ++ [(⟨bt178.1, bt178.2.1⟩ : S32)]) (wrap64 ((ji7) + (wrap64 (Int.tdiv (wrap64 ((wrap64 (rd l0 x5_1)) + 7)) 8))))) else (none)))) = some (r1, r2) := by first | (rw [hy174]; with_reducible exact H) | (have H2_ := (Option.bind_some _ _).symm.trans H; rw [hy174]; with_reducible exact H2_) | (have H2_ := (Option.bind_some _ _).symm.trans H; with_reducible exact H2_) | with_reducible exact H | (rw [hy174]; exact H) | exact H
                          have Ny174 := Aside0.mk hy174
                          clear hy174
                          replace H := Option.bind_eq_some_iff.mp H
                          obtain ⟨t177, A130, H⟩ := H
                          replace H : ((interregnumref05_Make.f kj3 ((t177) % 4294967296) (wrap64 (rd l0 x5_1))).bind fun bt178 => (if x4_1.length < 8796093022208 then (interregnumref05_ReadPrefixes.l0 kj3 l0 (x4_1 ++ [(⟨bt178.1, bt178.2.1⟩ : S32)]) (wrap64 ((ji7) + (wrap64 (Int.tdiv (wrap64 ((wrap64 (rd l0 x5_1)) + 7)) 8))))) else (none))) = some (r1, r2) := H
                          have A13 := Aside0.mk A130
                          clear A130
                          replace H := Option.bind_eq_some_iff.mp H
                          obtain ⟨⟨t178, t179, t180⟩, A140, H⟩ := H
                          replace H : (if x4_1.length < 8796093022208 then (interregnumref05_ReadPrefixes.l0 kj3 l0 (x4_1 ++ [(⟨t178, t179⟩ : S32)]) (wrap64 ((ji7) + (wrap64 (Int.tdiv (wrap64 ((wrap64 (rd l0 x5_1)) + 7)) 8))))) else (none)) = some (r1, r2) := H
                          have A14 := Aside0.mk A140
                          clear A140
                          by_cases c15 : x4_1.length < 8796093022208
                          · rw [if_pos c15] at H
                            have LMc15 := Aside0.mk c15
                            clear c15
                            obtain ⟨y182, hy182⟩ : ∃ y_ : List (S32), y_ = (x4_1 ++ [(⟨t178, t179⟩ : S32)]) := ⟨_, rfl⟩
                            replace H : (interregnumref05_ReadPrefixes.l0 kj3 l0 y182 (wrap64 ((ji7) + (wrap64 (Int.tdiv (wrap64 ((wrap64 (rd l0 x5_1)) + 7)) 8))))) = some (r1, r2) := by first | (rw [hy182]; with_reducible exact H) | (have H2_ := (Option.bind_some _ _).symm.trans H; rw [hy182]; with_reducible exact H2_) | (have H2_ := (Option.bind_some _ _).symm.trans H; with_reducible exact H2_) | with_reducible exact H | (rw [hy182]; exact H) | exact H
                            have Ny182 := Aside0.mk hy182
                            clear hy182
                            have H' := Aside0.mk H
                            clear H
                            go_wp2_with (first | ((with_reducible refine gate_dst (N := 34) rfl ?_); (try (refine gate_guard (by rfl) ?_; dsimp only)); refine Kd.R_lit (Kd.int .u8) _ 5 ?hg (N := 34) ?hd (xs := ([] : List Int)) (inner := []) (ok := fun _ => True) (okp := fun _ => True) ?hr ?hp (fun _ hk => hk) trivial (Below.refl _ _) (Nat.le_refl _) (by simp) ?_; (case hd => rfl); (case hg => rfl); (case hr => first | (go_simp; done) | (go_simp; rfl)); (case hp => exact (Reps.none _ _)); intro v165 w16 ho17 hb hg_ hnew_; clear hg_ hnew_; (first | rw [← Ny164.out] at ho17 | (simp only [Int.reduceToNat] at ho17; rw [← Ny164.out] at ho17)); have n0_ := Aside0.mk (Kd.R_below (by (with_reducible repeat (first | apply Kd.R_alloc | apply Kd.R_drewN | apply Kd.R_drew)); exact HO_4.out) hb); have n1_ := Aside0.mk (Kd.R_lower ho17 (below_size (by repeat (first | (with_reducible first | exact HB.out | apply below_alloc | apply pw_below_drewN | apply below_drew1) | exact HB.out)))); have n2_ := Aside0.mk (below_step (by repeat (first | (with_reducible first | exact HB.out | apply below_alloc | apply pw_below_drewN | apply below_drew1) | exact HB.out)) hb); clear HO_4; clear HB; have HO_4 := n0_; have HO166 := n1_; have HB := n2_; clear n0_ n1_ n2_; clear hb ho17; obtain ⟨i018, hi018, _, hsz18, _⟩ := info_parts info5; obtain ⟨A18, hcut18, hA18, hC18⟩ := print_mid_of (P := Try.prog) (Value.int .u8) 0 22 5 .i64 .i64 Try.underlying22 hi018 hsz18 (some ad163) c0 l0 (ji7) (wrap64 ((ji7) + (wrap64 (Int.tdiv (wrap64 ((wrap64 (rd l0 x5_1)) + 7)) 8)))) (of_decide_eq_true (by first | (with_reducible assumption) | assumption)) (by first | omega | exact of_decide_eq_true (by first | (with_reducible assumption) | assumption)) (of_decide_eq_true (by first | (with_reducible assumption) | assumption)) HC0.out; have HR167 := Aside0.mk (Kd.C_of_reads (h1 := fun _ => rfl) (hA18 _ (Kd.reads_of_C HR0.out))); have HC167 := Aside0.mk hC18; clear hA18 hC18 hi018 hsz18) | ((with_reducible refine gate_builtin (b := .append) (xs := #[.tmp 34, .tmp 42]) rfl ?_); (try (refine gate_guard (by rfl) ?_; dsimp only)); at_builtin; refine Kd.R_append_rows (Kd.int .u8) (w0 := w) w.heap.size rfl (.tmp 34) (.tmp 42) 22 5 (.int .u8 0) 1 rfl Try.underlying22 info5 rfl (by decide) (by omega) v165 y164 ((l0.take ((wrap64 ((ji7) + (wrap64 (Int.tdiv (wrap64 ((wrap64 (rd l0 x5_1)) + 7)) 8)))) : Int).toNat).drop ((ji7) : Int).toNat) _ _ _ (fun _ => True) (fun _ => False) rfl rfl ?aO ?aR (fun _ _ h => h) (fun _ h => h.elim) ?aF ?aB ?aS ?aL ?_; (case aR => first | (rw [← show ((l0.take ((wrap64 ((ji7) + (wrap64 (Int.tdiv (wrap64 ((wrap64 (rd l0 x5_1)) + 7)) 8)))) : Int).toNat).drop ((ji7) : Int).toNat).length = ((wrap64 ((ji7) + (wrap64 (Int.tdiv (wrap64 ((wrap64 (rd l0 x5_1)) + 7)) 8)))).toNat - (ji7).toNat) from (by rw [List.length_drop, List.length_take]; have h_ : ((wrap64 ((ji7) + (wrap64 (Int.tdiv (wrap64 ((wrap64 (rd l0 x5_1)) + 7)) 8)))) : Int) ≤ (l0.length : Int) := of_decide_eq_true (by first | (with_reducible assumption) | assumption); omega)]; repeat (first | exact (Kd.C_below HR167.out HB.out) | (with_reducible refine Kd.C_alloc ?_ _) | (with_reducible refine Kd.C_drewN ?_ _) | (with_reducible refine Kd.C_drew ?_))) | (repeat (first | exact (Kd.C_below HR167.out HB.out) | (with_reducible refine Kd.C_alloc ?_ _) | (with_reducible refine Kd.C_drewN ?_ _) | (with_reducible refine Kd.C_drew ?_)))); (case aB => exact (by repeat (first | (with_reducible first | exact HB.out | apply below_alloc | apply pw_below_drewN | apply below_drew1) | exact HB.out))); (case aF => exact (fun _ _ => trivial)); (case aO => exact (by (with_reducible repeat (first | apply Kd.R_alloc | apply Kd.R_drewN | apply Kd.R_drew)); exact HO166.out)); (case aS => exact (below_size (by repeat (first | (with_reducible first | exact HB.out | apply below_alloc | apply pw_below_drewN | apply below_drew1) | exact HB.out)))); (case aL => have := LMc11.out; have hlx_ := (show ((l0.take ((wrap64 ((ji7) + (wrap64 (Int.tdiv (wrap64 ((wrap64 (rd l0 x5_1)) + 7)) 8)))) : Int).toNat).drop ((ji7) : Int).toNat).length = ((wrap64 ((ji7) + (wrap64 (Int.tdiv (wrap64 ((wrap64 (rd l0 x5_1)) + 7)) 8)))).toNat - (ji7).toNat) from (by rw [List.length_drop, List.length_take]; have h_ : ((wrap64 ((ji7) + (wrap64 (Int.tdiv (wrap64 ((wrap64 (rd l0 x5_1)) + 7)) 8)))) : Int) ≤ (l0.length : Int) := of_decide_eq_true (by first | (with_reducible assumption) | assumption); omega)); omega); intro v169 w19 ho hb hg hat; rw [← Ny168.out] at ho; have n0_ := Aside0.mk (Kd.R_over' (by (with_reducible repeat (first | apply Kd.R_alloc | apply Kd.R_drewN | apply Kd.R_drew)); exact HO_4.out) (Kd.R_typed (by (with_reducible repeat (first | apply Kd.R_alloc | apply Kd.R_drewN | apply Kd.R_drew)); exact HO166.out)) (by decide) hg); have n1_ := Aside0.mk (hb); have n2_ := Aside0.mk (ho); clear HO_4; clear HB; clear HO166; have HO_4 := n0_; have HB := n1_; have HO170 := n2_; clear n0_ n1_ n2_; clear ho hb hg hat) | ((with_reducible refine gate_dst (N := 44) rfl ?_); (try (refine gate_guard (by rfl) ?_; dsimp only)); refine Kd.R_lit (Kd.int .u8) _ 5 ?hg (N := 44) ?hd (xs := ([0, 0, 0, 0] : List Int)) (inner := [.int .u8 0, .int .u8 0, .int .u8 0, .int .u8 0]) (ok := fun _ => True) (okp := fun _ => True) ?hr ?hp (fun _ hk => hk) trivial (Below.refl _ _) (Nat.le_refl _) (by simp) ?_; (case hd => rfl); (case hg => rfl); (case hr => first | (go_simp; done) | (go_simp; rfl)); (case hp => exact (Reps.one (show Kd.M (Kd.int .u8) _ _ _ 0 [.int .u8 0] from rfl) (Reps.one (show Kd.M (Kd.int .u8) _ _ _ 0 [.int .u8 0] from rfl) (Reps.one (show Kd.M (Kd.int .u8) _ _ _ 0 [.int .u8 0] from rfl) (Reps.one (show Kd.M (Kd.int .u8) _ _ _ 0 [.int .u8 0] from rfl) (Reps.none _ _)))))); intro v172 w20 ho21 hb hg_ hnew_; clear hg_ hnew_; (first | rw [← Ny171.out] at ho21 | (simp only [Int.reduceToNat] at ho21; rw [← Ny171.out] at ho21)); have n0_ := Aside0.mk (Kd.R_below (by (with_reducible repeat (first | apply Kd.R_alloc | apply Kd.R_drewN | apply Kd.R_drew)); exact HO_4.out) hb); have n1_ := Aside0.mk (Kd.R_elder' (by (with_reducible repeat (first | apply Kd.R_alloc | apply Kd.R_drewN | apply Kd.R_drew)); exact HO170.out) (Kd.R_base ho21) hb); have n2_ := Aside0.mk (Kd.R_lower (Kd.R_new' ho21 (Kd.R_lt (by (with_reducible repeat (first | apply Kd.R_alloc | apply Kd.R_drewN | apply Kd.R_drew)); exact HO170.out))) (below_size (by repeat (first | (with_reducible first | exact HB.out | apply below_alloc | apply pw_below_drewN | apply below_drew1) | exact HB.out)))); have n3_ := Aside0.mk (below_step (by repeat (first | (with_reducible first | exact HB.out | apply below_alloc | apply pw_below_drewN | apply below_drew1) | exact HB.out)) hb); clear HO_4; clear HO170; clear HB; have HO_4 := n0_; have HO170 := n1_; have HO173 := n2_; have HB := n3_; clear n0_ n1_ n2_ n3_; clear hb ho21; obtain ⟨Ao23, co23, eo23⟩ := Kd.R_slice HO173.out; subst eo23) | ((with_reducible refine gate_builtin (b := .append) (xs := #[.tmp 43, .tmp 44]) rfl ?_); (try (refine gate_guard (by rfl) ?_; dsimp only)); at_builtin; refine Kd.R_append_rows (Kd.int .u8) (w0 := w) w.heap.size rfl (.tmp 43) (.tmp 44) 22 5 (.int .u8 0) 1 rfl Try.underlying22 info5 rfl (by decide) (by omega) v169 y168 y171 _ _ _ (fun k_ => some k_ ≠ (.slice Ao23 y171.length co23 : Value).ownBlock) (fun _ => False) rfl rfl ?aO ?aR (fun _ _ h => h) (fun _ h => h.elim) ?aF ?aB ?aS ?aL ?_; (case aR => repeat (first | exact (Kd.R_reads' HO173.out).2.2 | (with_reducible refine Kd.C_alloc ?_ _) | (with_reducible refine Kd.C_drewN ?_ _) | (with_reducible refine Kd.C_drew ?_))); (case aB => exact (by repeat (first | (with_reducible first | exact HB.out | apply below_alloc | apply pw_below_drewN | apply below_drew1) | exact HB.out))); (case aF => exact (fun k_ hk => Kd.fresh' (Kd.R_lt (by (with_reducible repeat (first | apply Kd.R_alloc | apply Kd.R_drewN | apply Kd.R_drew)); exact HO173.out)) k_ hk)); (case aO => exact (by (with_reducible repeat (first | apply Kd.R_alloc | apply Kd.R_drewN | apply Kd.R_drew)); exact Kd.R_mono HO170.out (fun _ hk => hk.2))); (case aS => exact (below_size (by repeat (first | (with_reducible first | exact HB.out | apply below_alloc | apply pw_below_drewN | apply below_drew1) | exact HB.out)))); (case aL => have := LMc12.out; omega); intro v175 w22 ho hb hg hat; rw [← Ny174.out] at ho; have n0_ := Aside0.mk (Kd.R_over' (by (with_reducible repeat (first | apply Kd.R_alloc | apply Kd.R_drewN | apply Kd.R_drew)); exact HO_4.out) (Kd.R_typed (by (with_reducible repeat (first | apply Kd.R_alloc | apply Kd.R_drewN | apply Kd.R_drew)); exact HO170.out)) (by decide) hg); have n1_ := Aside0.mk (Kd.R_after (ok := (fun _ => True)) (by (with_reducible repeat (first | apply Kd.R_alloc | apply Kd.R_drewN | apply Kd.R_drew)); exact HO173.out) hg hat); have n2_ := Aside0.mk (hb); have n3_ := Aside0.mk (ho); clear HO_4; clear HO173; clear HB; clear HO170; have HO_4 := n0_; have HO173 := n1_; have HB := n2_; have HO176 := n3_; clear n0_ n1_ n2_ n3_; clear ho hb hg hat; obtain ⟨Ao24, co24, eo24⟩ := Kd.R_slice HO176.out; subst eo24) | ((with_reducible refine gate_callee (f := 33) rfl ?_); refine goesL_ (some 48) rfl rfl Try.func33 (by kernel_rfl) rfl #[.slice Ao24 y174.length co24] rfl (by (try simp only [List.map_toArray, List.map_cons, List.map_nil]); first | done | rfl | (simp only [List.length_drop, List.length_take]; rfl)) ?_; (with_reducible refine (interregnumref01_Num.calls _ _ y174 t177 _ ?side1 ?side2 A13.out).mono ?_); (case side1 => repeat (first | exact (Kd.R_reads' HO176.out).2.2 | (with_reducible refine Kd.C_alloc ?_ _) | (with_reducible refine Kd.C_drewN ?_ _) | (with_reducible refine Kd.C_drew ?_))); (case side2 => exact (Kd.R_reads' HO176.out).2.1); rintro e w' ⟨rfl, ⟨nd, rfl⟩⟩; refine ⟨_, rfl, ?_⟩; (try (rw [drewN_self w22]; generalize hq_ : World.drewN w22 _ = w22; have n0_ : Aside0 (Kd.R (Kd.int .u8) 5 w22 w.heap.size (fun k_ => some k_ ≠ (.slice Ao24 y174.length co24 : Value).ownBlock) (.slice Ao23 y171.length co23) y171) := ⟨by rw [← hq_]; exact (by (with_reducible repeat (first | apply Kd.R_alloc | apply Kd.R_drewN | apply Kd.R_drew)); exact Kd.R_mono HO173.out (fun _ hk => hk.2))⟩; have n1_ : Aside0 (Kd.R (Kd.int .u8) 5 w22 w.heap.size (fun k_ => some k_ ≠ (.slice Ao23 y171.length co23 : Value).ownBlock) (.slice Ao24 y174.length co24) y174) := ⟨by rw [← hq_]; exact (by (with_reducible repeat (first | apply Kd.R_alloc | apply Kd.R_drewN | apply Kd.R_drew)); exact HO176.out)⟩; have n2_ : Aside0 (Kd.R k32 32 w22 w.heap.size (fun _ => True) u4 x4_1) := ⟨by rw [← hq_]; exact (by (with_reducible repeat (first | apply Kd.R_alloc | apply Kd.R_drewN | apply Kd.R_drew)); exact HO_4.out)⟩; have n3_ : Aside0 (Below w.heap.size w w22) := ⟨by rw [← hq_]; exact (by repeat (first | (with_reducible first | exact HB.out | apply below_alloc | apply pw_below_drewN | apply below_drew1) | exact HB.out))⟩; clear HO173 HO176 HO_4 HB hq_; have HO173 := n0_; have HO176 := n1_; have HO_4 := n2_; have HB := n3_; clear n0_ n1_ n2_ n3_))) | ((with_reducible refine gate_callee (f := 15) rfl ?_); refine goesL_ (some 51) rfl rfl Try.func15 (by kernel_rfl) rfl #[.int .u32 ((t177) % 4294967296), .int .i64 (wrap64 (rd l0 x5_1))] rfl (by (try simp only [List.map_toArray, List.map_cons, List.map_nil]); first | done | rfl | (simp only [List.length_drop, List.length_take]; rfl)) ?_; (with_reducible refine (interregnumref05_Make.calls kj3 ((t177) % 4294967296) (wrap64 (rd l0 x5_1)) t178 t179 t180 _ A14.out).mono ?_); rintro e w25 ⟨rfl, hb⟩; refine ⟨_, rfl, ?_⟩; have n0_ := Aside0.mk (Kd.R_below (by (with_reducible repeat (first | apply Kd.R_alloc | apply Kd.R_drewN | apply Kd.R_drew)); exact HO_4.out) hb); have n1_ := Aside0.mk (Kd.R_below (by (with_reducible repeat (first | apply Kd.R_alloc | apply Kd.R_drewN | apply Kd.R_drew)); exact HO173.out) hb); have n2_ := Aside0.mk (Kd.R_below (by (with_reducible repeat (first | apply Kd.R_alloc | apply Kd.R_drewN | apply Kd.R_drew)); exact HO176.out) hb); have n3_ := Aside0.mk (below_step (by repeat (first | (with_reducible first | exact HB.out | apply below_alloc | apply pw_below_drewN | apply below_drew1) | exact HB.out)) hb); clear HO_4; clear HO173; clear HO176; clear HB; have HO_4 := n0_; have HO173 := n1_; have HO176 := n2_; have HB := n3_; clear n0_ n1_ n2_ n3_; (try clear hb); (try clear hb2); (try clear hk); (try clear hi)) | ((with_reducible refine gate_dst (N := 9) rfl ?_); (try (refine gate_guard (by rfl) ?_; dsimp only)); refine box_event ?hg (N := 9) ?hd (cs := #[.int .u32 0, .int .i64 0]) (t := 32) ?hr ?_; (case hd => rfl); (case hg => rfl); (case hr => first | (go_simp; done) | (go_simp; rfl)); intro gb181 hg w26 hbox hb; have n0_ := Aside0.mk (Kd.R_below (Kd.R_elderB (by (with_reducible repeat (first | apply Kd.R_alloc | apply Kd.R_drewN | apply Kd.R_drew)); exact HO_4.out) gb181 (Nat.le_of_eq hg.symm)) hb); have n1_ := Aside0.mk (Kd.R_below (by (with_reducible repeat (first | apply Kd.R_alloc | apply Kd.R_drewN | apply Kd.R_drew)); exact HO173.out) hb); have n2_ := Aside0.mk (Kd.R_below (by (with_reducible repeat (first | apply Kd.R_alloc | apply Kd.R_drewN | apply Kd.R_drew)); exact HO176.out) hb); have n3_ := Aside0.mk (below_step (by repeat (first | (with_reducible first | exact HB.out | apply below_alloc | apply pw_below_drewN | apply below_drew1) | exact HB.out)) hb); have n4_ := Aside0.mk (hbox); have n5_ := Aside0.mk ((by rw [hg]; exact (below_size (by repeat (first | (with_reducible first | exact HB.out | apply below_alloc | apply pw_below_drewN | apply below_drew1) | exact HB.out))) : w.heap.size ≤ gb181)); have n6_ := Aside0.mk ((by rw [hg]; exact (below_size (by repeat (first | (with_reducible first | exact HB.out | apply below_alloc | apply pw_below_drewN | apply below_drew1) | exact HB.out))) : w.heap.size ≤ gb181)); clear HO_4; clear HO173; clear HO176; clear HB; have HO_4 := n0_; have HO173 := n1_; have HO176 := n2_; have HB := n3_; have BK181 := n4_; have GW181 := n5_; have GE181 := n6_; clear n0_ n1_ n2_ n3_ n4_ n5_ n6_; clear hb hbox hg; have hcz27_0 : w26.cell? ⟨gb181, 0, none⟩ = some (.int .u32 0) := (blk_cell BK181.out 0).trans rfl; have hcz27_1 : w26.cell? ⟨gb181, 1, none⟩ = some (.int .i64 0) := (blk_cell BK181.out 1).trans rfl; have hfz27_0 := blk_frozen BK181.out 0; have hfz27_1 := blk_frozen BK181.out 1) | ((with_reducible refine gate_builtin (b := .append) (xs := #[.tmp 54, .tmp 56]) rfl ?_); (try (refine gate_guard (by rfl) ?_; dsimp only)); at_builtin; refine Kd.R_append k32 (w0 := w) w.heap.size rfl (.tmp 54) (.tmp 56) 37 32 (.agg #[(.int .u32 0), (.int .i64 0)]) 16 rfl Try.underlying37 info32 rfl (by decide) (by omega) u4 x4_1 (⟨t178, t179⟩ : S32) [.int .u32 t178, .int .i64 t179] (fun k_ => k_ ≠ gb181) (fun _ => False) rfl (by first | (go_simp; done) | (go_simp; rfl)) ?aP (fun _ hk => hk.elim) ?aF ?aO ?aB ?aS ?aL ?_; (case aP => exact k32_mkM _ _ _ (⟨t178, t179⟩ : S32)); (case aB => exact (by repeat (first | (with_reducible first | exact HB.out | apply below_alloc | apply pw_below_drewN | apply below_drew1 | refine below_set ?_ GE181.out) | exact HB.out))); (case aF => exact (fun k_ hk => Kd.freshB (g := gb181) (o := .cells #[.int .u32 t178, .int .i64 t179] 32 (0, 0)) (by (with_reducible repeat (first | refine blk_drewN ?_ _ | refine blk_drew ?_ | refine blk_alloc ?_ _)); refine blk_put (cs := #[.int .u32 t178, .int .i64 0]) ?_ 1 _ rfl; (with_reducible repeat (first | refine blk_drewN ?_ _ | refine blk_drew ?_ | refine blk_alloc ?_ _)); refine blk_put (cs := #[.int .u32 0, .int .i64 0]) ?_ 0 _ rfl; (with_reducible repeat (first | refine blk_drewN ?_ _ | refine blk_drew ?_ | refine blk_alloc ?_ _)); exact BK181.out) k_ hk)); (case aO => exact (by (with_reducible repeat (first | apply Kd.R_alloc | apply Kd.R_drewN | apply Kd.R_drew)); exact Kd.R_mono (Kd.R_far (p := ⟨gb181, 1, none⟩) (Kd.R_far (p := ⟨gb181, 0, none⟩) (Kd.R_mono HO_4.out (fun k_ hk => (⟨hk, hk.2⟩ : _ ∧ k_ ≠ gb181))) (fun _ hk => hk.2) (.int .u32 t178)) (fun _ hk => hk.2) (.int .i64 t179)) (fun _ hk => hk.1.2))); (case aS => exact (below_size (by repeat (first | (with_reducible first | exact HB.out | apply below_alloc | apply pw_below_drewN | apply below_drew1 | refine below_set ?_ GE181.out) | exact HB.out)))); (case aL => have := LMc15.out; omega); intro v183 w28 ho hb hg hat; rw [← Ny182.out] at ho; have n0_ := Aside0.mk (Kd.R_over' (by (with_reducible repeat (first | apply Kd.R_alloc | apply Kd.R_drewN | apply Kd.R_drew)); exact (Kd.R_mono (Kd.R_far (p := ⟨gb181, 1, none⟩) (Kd.R_far (p := ⟨gb181, 0, none⟩) (Kd.R_types HO173.out BK181.out (by decide)) (fun _ hk => hk.2) (.int .u32 t178)) (fun _ hk => hk.2) (.int .i64 t179)) (fun _ h_ => h_.1))) (Kd.R_typed (by (with_reducible repeat (first | apply Kd.R_alloc | apply Kd.R_drewN | apply Kd.R_drew)); exact (Kd.R_mono (Kd.R_far (p := ⟨gb181, 1, none⟩) (Kd.R_far (p := ⟨gb181, 0, none⟩) (Kd.R_mono HO_4.out (fun k_ hk => (⟨hk, hk.2⟩ : _ ∧ k_ ≠ gb181))) (fun _ hk => hk.2) (.int .u32 t178)) (fun _ hk => hk.2) (.int .i64 t179)) (fun _ h_ => h_.1)))) (by decide) hg); have n1_ := Aside0.mk (Kd.R_over' (by (with_reducible repeat (first | apply Kd.R_alloc | apply Kd.R_drewN | apply Kd.R_drew)); exact (Kd.R_mono (Kd.R_far (p := ⟨gb181, 1, none⟩) (Kd.R_far (p := ⟨gb181, 0, none⟩) (Kd.R_types HO176.out BK181.out (by decide)) (fun _ hk => hk.2) (.int .u32 t178)) (fun _ hk => hk.2) (.int .i64 t179)) (fun _ h_ => h_.1))) (Kd.R_typed (by (with_reducible repeat (first | apply Kd.R_alloc | apply Kd.R_drewN | apply Kd.R_drew)); exact (Kd.R_mono (Kd.R_far (p := ⟨gb181, 1, none⟩) (Kd.R_far (p := ⟨gb181, 0, none⟩) (Kd.R_mono HO_4.out (fun k_ hk => (⟨hk, hk.2⟩ : _ ∧ k_ ≠ gb181))) (fun _ hk => hk.2) (.int .u32 t178)) (fun _ hk => hk.2) (.int .i64 t179)) (fun _ h_ => h_.1)))) (by decide) hg); have n2_ := Aside0.mk (blk_grown (g := gb181) (o := .cells #[.int .u32 t178, .int .i64 t179] 32 (0, 0)) (by (with_reducible repeat (first | refine blk_drewN ?_ _ | refine blk_drew ?_ | refine blk_alloc ?_ _)); refine blk_put (cs := #[.int .u32 t178, .int .i64 0]) ?_ 1 _ rfl; (with_reducible repeat (first | refine blk_drewN ?_ _ | refine blk_drew ?_ | refine blk_alloc ?_ _)); refine blk_put (cs := #[.int .u32 0, .int .i64 0]) ?_ 0 _ rfl; (with_reducible repeat (first | refine blk_drewN ?_ _ | refine blk_drew ?_ | refine blk_alloc ?_ _)); exact BK181.out) hg (Kd.R_away HO_4.out (fun _ hk => hk.2))); have n3_ := Aside0.mk (hb); have n4_ := Aside0.mk (ho); clear HO173; clear HO176; clear BK181; clear HB; clear HO_4; have HO173 := n0_; have HO176 := n1_; have BK181 := n2_; have HB := n3_; have HO184 := n4_; clear n0_ n1_ n2_ n3_ n4_; clear ho hb hg hat))
                            go_roundg kj3
                            case measure => have := HK1.out; have := HJ3.out; omega
                            case rel => exact ⟨(y182), (wrap64 ((ji7) + (wrap64 (Int.tdiv (wrap64 ((wrap64 (rd l0 x5_1)) + 7)) 8)))), (by first | rfl | (simp; done) | (simp only [← hji7] <;> (first | rfl | simp)) | (simp [*]; done)), H', ⟨by have := HK1.out; have := HJ3.out; omega⟩, ⟨by (with_reducible repeat (first | apply Kd.R_alloc | apply Kd.R_drewN | apply Kd.R_drew)); exact Kd.R_mono HO184.out (fun _ hk => trivial)⟩, ⟨by repeat (first | (with_reducible first | exact HB.out | apply below_alloc | apply pw_below_drewN | apply below_drew1 | refine below_set ?_ GE181.out) | exact HB.out)⟩⟩
                          · rw [if_neg c15] at H
                            exact absurd H (by simp)
                        · rw [if_neg c12] at H
                          exact absurd H (by simp)
                      · rw [if_neg c11] at H
                        exact absurd H (by simp)
                    · rw [if_neg c10] at H
                      exact absurd H (by simp)
                  · rw [if_neg c9] at H
                    exact absurd H (by simp)
                · rw [if_neg c8] at H
                  exact absurd H (by simp)
        · rw [if_neg c3] at H
          exact absurd H (by simp)
      · rw [if_neg c2] at H
        have c2b0 : decide (x5_1 < (l0.length : Int)) = false := decide_eq_false c2
        clear c2
        simp only [Option.some.injEq, Prod.mk.injEq] at H
        obtain ⟨rfl, rfl⟩ := H
        go_wp2
        go_ret2
        exact ⟨_, by first | rfl | (simp [errW_none, errW_some] <;> rfl) | (simp [*, errW_none, errW_some] <;> rfl), by (with_reducible repeat (first | apply Kd.R_alloc | apply Kd.R_drewN | apply Kd.R_drew)); exact HO_4.out, by repeat (first | (with_reducible first | exact HB.out | apply below_alloc | apply pw_below_drewN | apply below_drew1) | exact HB.out)⟩

end Go.Proofs.Ytndmlmfkbkefcaa.PPrefixReads
