-- IMPORT Derived.Test.YtpkckkmgnlhhcaaHelp
-- Lean text by a program of this repo (wip/tools/printx.py), out of Lean's own print of the translation
import Derived.Test.YtpkckkmgnlhhcaaHelp
import Derived.Test.YtpkckkmgnlhhcaaPPathPrependsx0
import Derived.Test.YtpkckkmgnlhhcaaPPathPrependsx1
namespace Go.Proofs.Ytpkckkmgnlhhcaa.PPathPrepends
open Go.RowKit Go.Proofs.YtpkckkmgnlhhcaaW.PrintWords Go.Proofs.YtpkckkmgnlhhcaaW.PrintLast Go.Proofs.YtpkckkmgnlhhcaaW.PrintMore
attribute [local go_sem] max2_int min2_int max_two min_two max_three min_three max_four min_four   -- for this text's walks alone
set_option linter.unusedVariables false
set_option linter.unusedSimpArgs false

/-! ### path_Decode: function 19 -/
mutual
def path_Decode.l0 : Nat → List Int → List (S38) → Option ((List (S38)) × Bool)
  | 0, _, _ => none
  | k + 1, x0, x4 => if (x0.length : Int) > 0 then (if (x0.length : Int) < 2 then (path_Decode.j1 k x0 x4 true) else (if 0 < (x0.length : Int) then (if (rd x0 0) = 1 then (path_Decode.j1 k x0 x4 false) else (path_Decode.j1 k x0 x4 ((rd x0 0) != 2))) else (none))) else ((path_Good.f x4).bind fun t144 => (if t144 = true then (some (x4, true)) else (some (([] : List (S38)), false))))
def path_Decode.j1 : Nat → List Int → List (S38) → Bool → Option ((List (S38)) × Bool)
  | 0, _, _, _ => none
  | k + 1, x0, x4, x24 => if x24 = true then (some (([] : List (S38)), false)) else (if 0 < (x0.length : Int) then (if 1 < (x0.length : Int) then (if 2 ≤ (x0.length : Int) then ((some (x0.drop 2 : List Int)).bind fun y127 => (if (y127.length : Int) < (wrap64 ((wrap64 (rd x0 1)) * 4)) then (some (([] : List (S38)), false)) else (path_Decode.l1 k y127 x4 (wrap64 (rd x0 1)) ((rd x0 0) == 1) ([] : List Int)))) else (none)) else (none)) else (none))
def path_Decode.l1 : Nat → List Int → List (S38) → Int → Bool → List Int → Option ((List (S38)) × Bool)
  | 0, _, _, _, _, _ => none
  | k + 1, x0, x4, x6, x127000, x127001 => if x6 > 0 then ((region_Get.f x0).bind fun t135 => (if x127001.length < 17592186044416 then (if 4 ≤ (x0.length : Int) then (path_Decode.l1 k (x0.drop 4) x4 (wrap64 (x6 - 1)) x127000 (x127001 ++ [wrap64 (t135)])) else (none)) else (none))) else (if x4.length < 4398046511104 then (path_Decode.l0 k x0 (x4 ++ [(⟨x127000, x127001⟩ : S38)])) else (none))
end
def path_Decode.f (k : Nat) (l0 : List Int) : Option ((List (S38)) × Bool) := path_Decode.l0 k l0 ([] : List (S38))
theorem path_Decode.mono_l : ∀ k, (∀ y0 y1, LeO (path_Decode.l0 k y0 y1) (path_Decode.l0 (k + 1) y0 y1)) ∧ (∀ y0 y1 y2, LeO (path_Decode.j1 k y0 y1 y2) (path_Decode.j1 (k + 1) y0 y1 y2)) ∧ (∀ y0 y1 y2 y3 y4, LeO (path_Decode.l1 k y0 y1 y2 y3 y4) (path_Decode.l1 (k + 1) y0 y1 y2 y3 y4))
  | 0 => ⟨fun _ _ r h => by simp [path_Decode.l0] at h, fun _ _ _ r h => by simp [path_Decode.j1] at h, fun _ _ _ _ _ r h => by simp [path_Decode.l1] at h⟩
  | k + 1 => by
    obtain ⟨ih0, ih1, ih2⟩ := path_Decode.mono_l k
    refine ⟨?_, ?_, ?_⟩
    · intro y0 y1
      unfold path_Decode.l0
      repeat' first
      | (with_reducible exact ih0 _ _)
      | (with_reducible exact ih1 _ _ _)
      | (with_reducible exact ih2 _ _ _ _ _)
      | (with_reducible exact LeO.refl _)
      | (with_reducible exact LeO.none _)
      | (with_reducible refine LeO.ite ?_ ?_)
      | (with_reducible refine LeO.bind ?_ (fun _ => ?_))
      | exact ih0 _ _
      | exact ih1 _ _ _
      | exact ih2 _ _ _ _ _
      | exact LeO.none _
      | refine LeO.ite ?_ ?_
      | refine LeO.bind ?_ (fun _ => ?_)
    · intro y0 y1 y2
      unfold path_Decode.j1
      repeat' first
      | (with_reducible exact ih0 _ _)
      | (with_reducible exact ih1 _ _ _)
      | (with_reducible exact ih2 _ _ _ _ _)
      | (with_reducible exact LeO.refl _)
      | (with_reducible exact LeO.none _)
      | (with_reducible refine LeO.ite ?_ ?_)
      | (with_reducible refine LeO.bind ?_ (fun _ => ?_))
      | exact ih0 _ _
      | exact ih1 _ _ _
      | exact ih2 _ _ _ _ _
      | exact LeO.none _
      | refine LeO.ite ?_ ?_
      | refine LeO.bind ?_ (fun _ => ?_)
    · intro y0 y1 y2 y3 y4
      unfold path_Decode.l1
      repeat' first
      | (with_reducible exact ih0 _ _)
      | (with_reducible exact ih1 _ _ _)
      | (with_reducible exact ih2 _ _ _ _ _)
      | (with_reducible exact LeO.refl _)
      | (with_reducible exact LeO.none _)
      | (with_reducible refine LeO.ite ?_ ?_)
      | (with_reducible refine LeO.bind ?_ (fun _ => ?_))
      | exact ih0 _ _
      | exact ih1 _ _ _
      | exact ih2 _ _ _ _ _
      | exact LeO.none _
      | refine LeO.ite ?_ ?_
      | refine LeO.bind ?_ (fun _ => ?_)
theorem path_Decode.mono : ∀ a0 k, LeO (path_Decode.f k a0) (path_Decode.f (k + 1) a0) := by
  intro a0 k
  obtain ⟨ih0, ih1, ih2⟩ := path_Decode.mono_l k
  unfold path_Decode.f
  repeat' first
      | (with_reducible exact ih0 _ _)
      | (with_reducible exact ih1 _ _ _)
      | (with_reducible exact ih2 _ _ _ _ _)
      | (with_reducible exact LeO.refl _)
      | (with_reducible exact LeO.none _)
      | (with_reducible refine LeO.ite ?_ ?_)
      | (with_reducible refine LeO.bind ?_ (fun _ => ?_))
      | exact ih0 _ _
      | exact ih1 _ _ _
      | exact ih2 _ _ _ _ _
      | exact LeO.none _
      | refine LeO.ite ?_ ?_
      | refine LeO.bind ?_ (fun _ => ?_)
def path_Decode.T5 : Bool × List (List Nat × List Nat) := (true, [([], []), ([0], [0]), ([1], [1]), ([2], [2]), ([3], [3]), ([], []), ([5], [5]), ([6], [6]), ([7], [7]), ([], []), ([9, 4, 0, 1, 2, 3, 4, 9], [4, 9]), ([8, 10, 0, 1, 2, 3, 4, 5, 6, 7, 8, 9, 10], [8])])
def path_Decode.B5 : List Nat := [0, 1, 3, 7, 15, 0, 32, 96, 224, 0, 543, 2047]
theorem path_Decode.tab5 : rtab .any (opsOf Try.f19 5) = path_Decode.T5 := by kernel_rfl
theorem path_Decode.bits5 : waitsOk path_Decode.T5.2 path_Decode.B5 = true := by kernel_rfl
def path_Decode.T11 : Bool × List (List Nat × List Nat) := (true, [([], []), ([0], [0]), ([], []), ([2], [2]), ([3], [3]), ([4], [4]), ([1, 5, 3], [1, 5]), ([0, 1, 2, 3, 4, 5, 6], []), ([7, 6, 6, 0, 1, 2, 3, 4, 5, 6], [6, 7])])
def path_Decode.B11 : List Nat := [0, 1, 0, 4, 12, 28, 63, 127, 255]
theorem path_Decode.tab11 : rtab .any (opsOf Try.f19 11) = path_Decode.T11 := by kernel_rfl
theorem path_Decode.bits11 : waitsOk path_Decode.T11.2 path_Decode.B11 = true := by kernel_rfl
set_option maxHeartbeats 8000000 in
set_option maxRecDepth 100000 in
theorem path_Decode.calls (k : Nat) (P0_ : Nat → Prop) (A0 : Option Addr) (c0 : Nat) (l0 : List Int) (r1 : List (S38)) (r2 : Bool) (w : World) (hs0 : Kd.V (Kd.int .u8) 5 w w.heap.size (fun k_ => P0_ k_) (.slice A0 l0.length c0) l0) (h : path_Decode.f k l0 = some (r1, r2)) :
    Calls Try.prog 19 #[.slice A0 l0.length c0] w fun e w' => ∃ v0_ : Value, e = .returned (.tuple #[v0_, .bool r2]) ∧ Kd.S k38 38 w' w.heap.size (fun k_ => (w.heap.size ≤ k_)) v0_ r1 ∧ Below w.heap.size w w' := by
  have hu38 := Try.underlying38
  have HO0 := Aside0.mk (show Kd.V (Kd.int .u8) 5 w w.heap.size (fun k_ => (P0_ k_ ∨ w.heap.size ≤ k_)) (.slice A0 l0.length c0) l0 from Kd.V_mono hs0 (fun k_ hk => .inl hk))
  have HB := Aside0.mk (Below.refl w.heap.size w)
  have H : (path_Decode.l0 k l0 ([] : List (S38))) = some (r1, r2) := h
  clear h
  have H' := Aside0.mk H
  clear H
  go_enter Try.func19, Try.ntmps19
  go_wp2
  go_loopg [0, 4] k (fun kq v0 v4 w' => ∃ (x0_1 : List Int) (x4_1 : List (S38)), Aside0 (path_Decode.l0 kq x0_1 x4_1 = some (r1, r2)) ∧ Aside0 (kq ≤ k) ∧ Aside0 (Kd.V (Kd.int .u8) 5 w' w.heap.size (fun k_ => (P0_ k_ ∨ w.heap.size ≤ k_) ∧ some k_ ≠ (v4 : Value).ownBlock) v0 x0_1) ∧ Aside0 (Kd.S k38 38 w' w.heap.size (fun k_ => (w.heap.size ≤ k_)) v4 x4_1) ∧ Aside0 (Below w.heap.size w w'))
  case atStart => exact ⟨(l0), (([] : List (S38))), H', ⟨Nat.le_refl _⟩, ⟨by (with_reducible repeat (first | apply Kd.V_alloc | apply Kd.V_drewN | apply Kd.V_drew)); exact Kd.V_mono HO0.out (fun _ hk => ⟨hk, (by simp [Value.ownBlock])⟩)⟩, ⟨by first | exact Kd.S_nil _ _ _ _ _ | exact Kd.N_nil _ _ _ _ _ | exact Kd.V_nil _ _ _ _ _ | exact Kd.Q_nil _ _ _ _ _ | exact Kd.R_nil _ _ _ _ _⟩, ⟨by repeat (first | (with_reducible first | exact HB.out | apply below_alloc | apply pw_below_drewN | apply below_drew1) | exact HB.out)⟩⟩
  case round =>
    clear H'
    try clear c1
    obtain ⟨x0_1, x4_1, HA, HK1, HO_0, HO_4, HB⟩ := hrel
    cases gk with
    | zero => exact absurd HA.out (by simp [path_Decode.l0])
    | succ k1 =>
      have H := HA.out
      clear HA
      simp only [path_Decode.l0] at H
      by_cases c2 : (x0_1.length : Int) > 0
      · rw [if_pos c2] at H
        have c2b0 : decide (0 < (x0_1.length : Int)) = true := decide_eq_true c2
        have c2b1 : decide (0 < x0_1.length) = true := decide_eq_true (by omega)
        clear c2
        have HC3 := Aside0.mk H
        clear H
        obtain ⟨Ao4, co4, eo4⟩ := Kd.V_slice HO_0.out
        subst eo4
        go_upto_region 3 with (fail)
        go_cut [24] (fun v24 wc => ∃ (kq : Nat) (x24_2 : Bool), v24 = .bool x24_2 ∧ Aside0 (path_Decode.j1 kq x0_1 x4_1 x24_2 = some (r1, r2)) ∧ Aside0 (kq ≤ k1) ∧ Aside0 (Kd.V (Kd.int .u8) 5 wc w.heap.size (fun k_ => (P0_ k_ ∨ w.heap.size ≤ k_) ∧ some k_ ≠ (u4 : Value).ownBlock) (.slice Ao4 x0_1.length co4) x0_1) ∧ Aside0 (Kd.S k38 38 wc w.heap.size (fun k_ => (w.heap.size ≤ k_)) u4 x4_1) ∧ Aside0 (Below w.heap.size w wc))
        case first =>
          have H := HC3.out
          clear HC3
          by_cases c5 : (x0_1.length : Int) < 2
          · rw [if_pos c5] at H
            have c5b0 : decide ((x0_1.length : Int) < 2) = true := decide_eq_true c5
            have c5b1 : decide (x0_1.length < 2) = true := decide_eq_true (by omega)
            clear c5
            (first | rw [c5b0] | (simp only [i64_w, i32_w]; rw [c5b0]) | skip)
            have H' := Aside0.mk H
            clear H
            go_wp2
            go_meet
            case rel => exact ⟨_, (true), (by first | rfl | (simp; done) | (simp [*]; done)), H', ⟨by have := HK1.out; first | omega | exact Nat.le_refl _⟩, ⟨by (with_reducible repeat (first | apply Kd.V_alloc | apply Kd.V_drewN | apply Kd.V_drew)); exact HO_0.out⟩, ⟨by (with_reducible repeat (first | apply Kd.S_alloc | apply Kd.S_drewN | apply Kd.S_drew)); exact HO_4.out⟩, ⟨by repeat (first | (with_reducible first | exact HB.out | apply below_alloc | apply pw_below_drewN | apply below_drew1) | exact HB.out)⟩⟩
          · rw [if_neg c5] at H
            have c5b0 : decide ((x0_1.length : Int) < 2) = false := decide_eq_false c5
            have c5b1 : decide (x0_1.length < 2) = false := decide_eq_false (by omega)
            clear c5
            (first | rw [c5b0] | (simp only [i64_w, i32_w]; rw [c5b0]) | skip)
            by_cases c6 : 0 < (x0_1.length : Int)
            · rw [if_pos c6] at H
              have c6b0 : decide (0 < (x0_1.length : Int)) = true := decide_eq_true c6
              have c6b1 : decide (0 < x0_1.length) = true := decide_eq_true (by omega)
              clear c6
              by_cases c7 : (rd x0_1 0) = 1
              · rw [if_pos c7] at H
                have c7b0 : ((rd x0_1 0) == 1) = true := beq_iff_eq.mpr c7
                have c7b1 : ((rd x0_1 0) != 1) = false := bne_eq_false_iff_eq.mpr c7
                clear c7
                have H' := Aside0.mk H
                clear H
                have p122 : 0 ≤ (0 : Int) := (by omega)
                have q122 : 0 < (x0_1.length : Int) := of_decide_eq_true (by first | (with_reducible assumption) | assumption)
                obtain ⟨ad122, e122, hx122_0⟩ := Kd.at_int (Kd.V_reads' HO_0.out).2.2 0 p122 q122
                cases e122
                have qi122 : (0 < x0_1.length) = True := eq_true (by omega)
                (try rw [show ((0 : Int)).toNat = 0 from rfl] at hx122_0)
                (try rw [Addr.add_zero'] at hx122_0)
                replace p122 := eq_true p122
                replace q122 := eq_true q122
                go_wp2
                go_meet
                case rel => exact ⟨_, (false), (by first | rfl | (simp; done) | (simp [*]; done)), H', ⟨by have := HK1.out; first | omega | exact Nat.le_refl _⟩, ⟨by (with_reducible repeat (first | apply Kd.V_alloc | apply Kd.V_drewN | apply Kd.V_drew)); exact HO_0.out⟩, ⟨by (with_reducible repeat (first | apply Kd.S_alloc | apply Kd.S_drewN | apply Kd.S_drew)); exact HO_4.out⟩, ⟨by repeat (first | (with_reducible first | exact HB.out | apply below_alloc | apply pw_below_drewN | apply below_drew1) | exact HB.out)⟩⟩
              · rw [if_neg c7] at H
                have c7b0 : ((rd x0_1 0) == 1) = false := beq_eq_false_iff_ne.mpr c7
                have c7b1 : ((rd x0_1 0) != 1) = true := bne_iff_ne.mpr c7
                have H' := Aside0.mk H
                clear H
                have p122 : 0 ≤ (0 : Int) := (by omega)
                have q122 : 0 < (x0_1.length : Int) := of_decide_eq_true (by first | (with_reducible assumption) | assumption)
                obtain ⟨ad122, e122, hx122_0⟩ := Kd.at_int (Kd.V_reads' HO_0.out).2.2 0 p122 q122
                cases e122
                have qi122 : (0 < x0_1.length) = True := eq_true (by omega)
                (try rw [show ((0 : Int)).toNat = 0 from rfl] at hx122_0)
                (try rw [Addr.add_zero'] at hx122_0)
                replace p122 := eq_true p122
                replace q122 := eq_true q122
                have p123 : 0 ≤ (0 : Int) := (by omega)
                have q123 : 0 < (x0_1.length : Int) := of_decide_eq_true (by first | (with_reducible assumption) | assumption)
                obtain ⟨ad123, e123, hx123_0⟩ := Kd.at_int (Kd.V_reads' HO_0.out).2.2 0 p123 q123
                obtain rfl : ad122 = ad123 := (by injection e123)
                have qi123 : (0 < x0_1.length) = True := eq_true (by omega)
                (try rw [show ((0 : Int)).toNat = 0 from rfl] at hx123_0)
                (try rw [Addr.add_zero'] at hx123_0)
                replace p123 := eq_true p123
                replace q123 := eq_true q123
                go_wp2
                go_meet
                case rel => exact ⟨_, (((rd x0_1 0) != 2)), (by first | rfl | (simp; done) | (simp [*]; done)), H', ⟨by have := HK1.out; first | omega | exact Nat.le_refl _⟩, ⟨by (with_reducible repeat (first | apply Kd.V_alloc | apply Kd.V_drewN | apply Kd.V_drew)); exact HO_0.out⟩, ⟨by (with_reducible repeat (first | apply Kd.S_alloc | apply Kd.S_drewN | apply Kd.S_drew)); exact HO_4.out⟩, ⟨by repeat (first | (with_reducible first | exact HB.out | apply below_alloc | apply pw_below_drewN | apply below_drew1) | exact HB.out)⟩⟩
            · rw [if_neg c6] at H
              exact absurd H (by simp)
        case rest =>
          clear HC3
          try clear c1
          try clear p1
          try clear q1
          try clear hx1
          try clear qi1
          try clear c2
          try clear c2b0
          try clear c2b1
          try clear p2
          try clear c5
          try clear c5b0
          try clear c5b1
          try clear c6
          try clear c6b0
          try clear c6b1
          try clear c7
          try clear c7b0
          try clear c7b1
          try clear hx122_0
          try clear hx123_0
          try clear p122
          try clear p123
          try clear q122
          try clear q123
          obtain ⟨kq, x24_2, rfl, HA, HJ2, HO_0, HO_4, HB⟩ := hcut
          cases kq with
          | zero => exact absurd HA.out (by simp [path_Decode.j1])
          | succ kj2 =>
            have H := HA.out
            clear HA
            simp only [path_Decode.j1] at H
            by_cases c8 : x24_2 = true
            · subst c8
              have H1 : (some (([] : List (S38)), false)) = some (r1, r2) := by rw [if_pos rfl] at H; exact H
              clear H
              have H := H1
              clear H1
              simp only [Option.some.injEq, Prod.mk.injEq] at H
              obtain ⟨rfl, rfl⟩ := H
              go_wp2
              go_ret2
              exact ⟨_, by first | rfl | (simp [errW_none, errW_some] <;> rfl) | (simp [*, errW_none, errW_some] <;> rfl), by first | exact Kd.S_nil _ _ _ _ _ | exact Kd.N_nil _ _ _ _ _ | exact Kd.V_nil _ _ _ _ _ | exact Kd.Q_nil _ _ _ _ _ | exact Kd.R_nil _ _ _ _ _, by repeat (first | (with_reducible first | exact HB.out | apply below_alloc | apply pw_below_drewN | apply below_drew1) | exact HB.out)⟩
            · replace c8 := Bool.eq_false_iff.mpr c8
              subst c8
              have H1 : (if 0 < (x0_1.length : Int) then (if 1 < (x0_1.length : Int) then (if 2 ≤ (x0_1.length : Int) then ((some (x0_1.drop 2 : List Int)).bind fun y127 => (if (y127.length : Int) < (wrap64 ((wrap64 (rd x0_1 1)) * 4)) then (some (([] : List (S38)), false)) else (path_Decode.l1 kj2 y127 x4_1 (wrap64 (rd x0_1 1)) ((rd x0_1 0) == 1) ([] : List Int)))) else (none)) else (none)) else (none)) = some (r1, r2) := by rw [if_neg (show ¬ (false = true) by decide)] at H; exact H
              clear H
              have H := H1
              clear H1
              by_cases c9 : 0 < (x0_1.length : Int)
              · rw [if_pos c9] at H
                have c9b0 : decide (0 < (x0_1.length : Int)) = true := decide_eq_true c9
                have c9b1 : decide (0 < x0_1.length) = true := decide_eq_true (by omega)
                clear c9
                by_cases c10 : 1 < (x0_1.length : Int)
                · rw [if_pos c10] at H
                  have c10b0 : decide (1 < (x0_1.length : Int)) = true := decide_eq_true c10
                  have c10b1 : decide (1 < x0_1.length) = true := decide_eq_true (by omega)
                  clear c10
                  by_cases c11 : 2 ≤ (x0_1.length : Int)
                  · rw [if_pos c11] at H
                    have c11b0 := eq_true c11
                    have c11b1 : decide (2 ≤ (x0_1.length : Int)) = true := decide_eq_true c11
                    clear c11
                    obtain ⟨y127, hy127⟩ : ∃ y_ : List Int, y_ = (x0_1.drop 2) := ⟨_, rfl⟩
                    replace H : (if (y127.length : Int) < (wrap64 ((wrap64 (rd x0_1 1)) * 4)) then (some (([] : List (S38)), false)) else (path_Decode.l1 kj2 y127 x4_1 (wrap64 (rd x0_1 1)) ((rd x0_1 0) == 1) ([] : List Int))) = some (r1, r2) := by first | (rw [hy127]; with_reducible exact H) | (have H2_ := (Option.bind_some _ _).symm.trans H; rw [hy127]; with_reducible exact H2_) | (have H2_ := (Option.bind_some _ _).symm.trans H; with_reducible exact H2_) | with_reducible exact H | (rw [hy127]; exact H) | exact H
                    have Ny127 := Aside0.mk hy127
                    clear hy127
                    by_cases c12 : (y127.length : Int) < (wrap64 ((wrap64 (rd x0_1 1)) * 4))
                    · rw [if_pos c12] at H
                      have c12b0 : decide ((y127.length : Int) < (wrap64 ((wrap64 (rd x0_1 1)) * 4))) = true := decide_eq_true c12
                      clear c12
                      simp only [Option.some.injEq, Prod.mk.injEq] at H
                      obtain ⟨rfl, rfl⟩ := H
                      try go_wp2
                      have n0_ := Aside0.mk (Kd.V_drew HO_0.out)
                      have n1_ := Aside0.mk (Kd.S_drew HO_4.out)
                      have n2_ := Aside0.mk (below_drew1 HB.out)
                      clear HO_0
                      clear HO_4
                      clear HB
                      have HO_0 := n0_
                      have HO_4 := n1_
                      have HB := n2_
                      clear n0_ n1_ n2_
                      have p124 : 0 ≤ (0 : Int) := (by omega)
                      have q124 : 0 < (x0_1.length : Int) := of_decide_eq_true (by first | (with_reducible assumption) | assumption)
                      obtain ⟨ad124, e124, hx124_0⟩ := Kd.at_int (Kd.V_reads' HO_0.out).2.2 0 p124 q124
                      cases e124
                      have qi124 : (0 < x0_1.length) = True := eq_true (by omega)
                      (try rw [show ((0 : Int)).toNat = 0 from rfl] at hx124_0)
                      (try rw [Addr.add_zero'] at hx124_0)
                      replace p124 := eq_true p124
                      replace q124 := eq_true q124
                      have p125 : 0 ≤ (1 : Int) := (by omega)
                      have q125 : 1 < (x0_1.length : Int) := of_decide_eq_true (by first | (with_reducible assumption) | assumption)
                      obtain ⟨ad125, e125, hx125_0⟩ := Kd.at_int (Kd.V_reads' HO_0.out).2.2 1 p125 q125
                      obtain rfl : ad124 = ad125 := (by injection e125)
                      (try simp only [show (1 : Int).toNat = 1 from rfl, Nat.reduceMul, Nat.reduceEqDiff, Go.Addr.add, ↓reduceIte] at hx125_0)
                      have qi125 : (1 < x0_1.length) = True := eq_true (by omega)
                      (try rw [show ((1 : Int)).toNat = 1 from rfl] at hx125_0)
                      replace p125 := eq_true p125
                      replace q125 := eq_true q125
                      refine start_ (n := 12) (S := fun w' => w'.cell? ad124 = some (.int .u8 (rd x0_1 0)) ∧ w'.cell? ⟨ad124.block, ad124.off + 1, none⟩ = some (.int .u8 (rd x0_1 1))) (ds := []) #[false, false, false, false, false, false, false, false, false, false, false, false] (by kernel_rfl) rfl rfl ⟨hx124_0, hx125_0⟩ (fun hHeld => ?_); refine with_tabW path_Decode.tab5 path_Decode.bits5 (fun HT_ HW_ => ?_)
                      generalize wc.drew = w13 at HO_0 HO_4 HB hx124_0 hx125_0 hHeld ⊢
                      refine pure_ (i := 0) (N := some 25) (v := ?_) (a' := ?_) #[true, false, false, false, false, false, false, false, false, false, false, false] rfl rfl (any_of HT_.out (by kernel_rfl)) (fun _ _ _ h => h) (Or.inl ⟨by rfl, ?_⟩) ?_ ?_
                      rotate_left
                      · intro w'
                        go_simp
                        with_reducible rfl
                      rotate_left
                      · simp only [Act.put, List.setIfInBounds_toArray, List.set_cons_zero, List.set_cons_succ, i64_w, i32_w]
                        rfl
                      refine pure_ (i := 1) (N := some 26) (v := ?_) (a' := ?_) #[true, true, false, false, false, false, false, false, false, false, false, false] rfl rfl (any_of HT_.out (by kernel_rfl)) (fun _ _ _ h => h) (Or.inl ⟨by rfl, ?_⟩) ?_ ?_
                      rotate_left
                      · intro w'
                        go_simp
                        with_reducible rfl
                      rotate_left
                      · simp only [Act.put, List.setIfInBounds_toArray, List.set_cons_zero, List.set_cons_succ, i64_w, i32_w]
                        rfl
                      refine pure_ (i := 5) (N := some 30) (v := ?_) (a' := ?_) #[true, true, false, false, false, true, false, false, false, false, false, false] rfl rfl (any_of HT_.out (by kernel_rfl)) (fun _ _ _ h => h) (Or.inl ⟨by rfl, ?_⟩) ?_ ?_
                      rotate_left
                      · intro w'
                        go_simp
                        with_reducible rfl
                      rotate_left
                      · simp only [Act.put, List.setIfInBounds_toArray, List.set_cons_zero, List.set_cons_succ, i64_w, i32_w]
                        rfl
                      refine pure_ (i := 6) (N := some 31) (v := ?_) (a' := ?_) #[true, true, false, false, false, true, true, false, false, false, false, false] rfl rfl (any_of HT_.out (by kernel_rfl)) (fun _ _ _ h => h) (Or.inl ⟨by rfl, ?_⟩) ?_ ?_
                      rotate_left
                      · intro w'
                        go_simp
                        with_reducible rfl
                      rotate_left
                      · simp only [Act.put, List.setIfInBounds_toArray, List.set_cons_zero, List.set_cons_succ, i64_w, i32_w]
                        rfl
                      refine take_ (i := 2) (N := some 27) (v := ?_) (a' := ?_) #[true, true, true, false, false, true, true, false, false, false, false, false] rfl rfl (take_ofW HT_.out HW_.out (by kernel_rfl)) (fun _ _ _ h => h) (Or.inl ⟨by rfl, ?_⟩) hHeld ?_ ?_
                      rotate_left
                      · rintro w' ⟨s0, s1⟩
                        go_simp
                        with_reducible rfl
                      rotate_left
                      · simp only [Act.put, List.setIfInBounds_toArray, List.set_cons_zero, List.set_cons_succ, i64_w, i32_w]
                        rfl
                      refine pure_ (i := 3) (N := some 28) (v := ?_) (a' := ?_) #[true, true, true, true, false, true, true, false, false, false, false, false] rfl rfl (any_of HT_.out (by kernel_rfl)) (fun _ _ _ h => h) (Or.inl ⟨by rfl, ?_⟩) ?_ ?_
                      rotate_left
                      · intro w'
                        go_simp
                        with_reducible rfl
                      rotate_left
                      · simp only [Act.put, List.setIfInBounds_toArray, List.set_cons_zero, List.set_cons_succ, i64_w, i32_w]
                        rfl
                      refine pure_ (i := 4) (N := some 29) (v := ?_) (a' := ?_) #[true, true, true, true, true, true, true, false, false, false, false, false] rfl rfl (any_of HT_.out (by kernel_rfl)) (fun _ _ _ h => h) (Or.inl ⟨by rfl, ?_⟩) ?_ ?_
                      rotate_left
                      · intro w'
                        go_simp
                        with_reducible rfl
                      rotate_left
                      · simp only [Act.put, List.setIfInBounds_toArray, List.set_cons_zero, List.set_cons_succ, i64_w, i32_w]
                        rfl
                      refine take_ (i := 7) (N := some 32) (v := ?_) (a' := ?_) #[true, true, true, true, true, true, true, true, false, false, false, false] rfl rfl (take_ofW HT_.out HW_.out (by kernel_rfl)) (fun _ _ _ h => h) (Or.inl ⟨by rfl, ?_⟩) hHeld ?_ ?_
                      rotate_left
                      · rintro w' ⟨s0, s1⟩
                        go_simp
                        with_reducible rfl
                      rotate_left
                      · simp only [Act.put, List.setIfInBounds_toArray, List.set_cons_zero, List.set_cons_succ, i64_w, i32_w]
                        rfl
                      refine pure_ (i := 8) (N := some 33) (v := ?_) (a' := ?_) #[true, true, true, true, true, true, true, true, true, false, false, false] rfl rfl (any_of HT_.out (by kernel_rfl)) (fun _ _ _ h => h) (Or.inl ⟨by rfl, ?_⟩) ?_ ?_
                      rotate_left
                      · intro w'
                        go_simp
                        with_reducible rfl
                      rotate_left
                      · simp only [Act.put, List.setIfInBounds_toArray, List.set_cons_zero, List.set_cons_succ, i64_w, i32_w]
                        rfl
                      refine one_ (i := 9) (N := some 5) #[true, true, true, true, true, true, true, true, true, true, false, false] rfl rfl (one_of HT_.out (by kernel_rfl)) (by decide) (fun K hK => ?_)
                      refine box_step ?hg (N := 5) ?hd (cs := #[.bool false, .slice none 0 0]) (t := 38) ?hr ?_; (case hd => rfl); (case hg => rfl); (case hr => first | (go_simp; done) | (go_simp; rfl) | (go_simp; simp [IntKind.wrap_u8, IntKind.wrap_u32]; done))
                      intro gb126 hg w14 hbox hb
                      have HS0_ := (hb.cell (World.block_lt_of_cell? _ _ (hHeld.1))).trans (hHeld.1)
                      have HS1_ := (hb.cell (World.block_lt_of_cell? _ _ (hHeld.2))).trans (hHeld.2)
                      have n0_ := Aside0.mk (Kd.V_below (Kd.V_elderB (by (with_reducible repeat (first | apply Kd.V_alloc | apply Kd.V_drewN | apply Kd.V_drew)); exact HO_0.out) gb126 (Nat.le_of_eq hg.symm)) hb)
                      have n1_ := Aside0.mk (Kd.S_below (Kd.S_elderB (by (with_reducible repeat (first | apply Kd.S_alloc | apply Kd.S_drewN | apply Kd.S_drew)); exact HO_4.out) gb126 (Nat.le_of_eq hg.symm)) hb)
                      have n2_ := Aside0.mk (below_step (by repeat (first | (with_reducible first | exact HB.out | apply below_alloc | apply pw_below_drewN | apply below_drew1) | exact HB.out)) hb)
                      have n3_ := Aside0.mk (hbox)
                      have n4_ := Aside0.mk ((by rw [hg]; exact (below_size (by repeat (first | (with_reducible first | exact HB.out | apply below_alloc | apply pw_below_drewN | apply below_drew1) | exact HB.out))) : w.heap.size ≤ gb126))
                      have n5_ := Aside0.mk ((by rw [hg]; exact (below_size (by repeat (first | (with_reducible first | exact HB.out | apply below_alloc | apply pw_below_drewN | apply below_drew1) | exact HB.out))) : w.heap.size ≤ gb126))
                      clear HO_0
                      clear HO_4
                      clear HB
                      have HO_0 := n0_
                      have HO_4 := n1_
                      have HB := n2_
                      have BK126 := n3_
                      have GW126 := n4_
                      have GE126 := n5_
                      clear n0_ n1_ n2_ n3_ n4_ n5_
                      clear hb hbox hg
                      refine hK.out _ _ ⟨HS0_, HS1_⟩ (fun hHeld => ?_)
                      clear hK K
                      refine norm_ (a' := ?_) ?_ ?_
                      rotate_left
                      · show Act.put _ (some 5) _ = _
                        simp only [Act.put, List.setIfInBounds_toArray, List.set_cons_zero, List.set_cons_succ, i64_w, i32_w]
                        rfl
                      refine one_ (i := 10) (N := none) #[true, true, true, true, true, true, true, true, true, true, true, false] rfl rfl (one_of HT_.out (by kernel_rfl)) (by decide) (fun K hK => ?_)
                      have hs15 : w14.cell? ⟨gb126, 0, none⟩ = some (.bool false) := (blk_cell BK126.out 0).trans rfl
                      have hfs15 := blk_frozen BK126.out 0
                      have hs16 : w14.cell? ⟨gb126, 1, none⟩ = some (.slice none 0 0) := (blk_cell BK126.out 1).trans rfl
                      have hfs16 := blk_frozen BK126.out 1
                      refine skip_ (w1 := ?_) (by rfl) rfl ?_ ?_
                      rotate_left
                      · go_simp
                        rfl
                      refine hK.out _ _ ⟨((cell_far (p := ⟨gb126, _, none⟩) (by first | exact (Go.Proofs.Ytpkckkmgnlhhcaa.Help.V_blk HO_0.out (Go.Proofs.Ytpkckkmgnlhhcaa.Help.pos_of_dec (by assumption)) (by decide) (fun _ hk => hk.2)) | (rw [add_block]; exact (Go.Proofs.Ytpkckkmgnlhhcaa.Help.V_blk HO_0.out (Go.Proofs.Ytpkckkmgnlhhcaa.Help.pos_of_dec (by assumption)) (by decide) (fun _ hk => hk.2))) | (show (Addr.add _ _).block ≠ _; rw [add_block]; exact (Go.Proofs.Ytpkckkmgnlhhcaa.Help.V_blk HO_0.out (Go.Proofs.Ytpkckkmgnlhhcaa.Help.pos_of_dec (by assumption)) (by decide) (fun _ hk => hk.2))) | (dsimp only; exact (Go.Proofs.Ytpkckkmgnlhhcaa.Help.V_blk HO_0.out (Go.Proofs.Ytpkckkmgnlhhcaa.Help.pos_of_dec (by assumption)) (by decide) (fun _ hk => hk.2)))) _).trans (((cell_far (p := ⟨gb126, _, none⟩) (by first | exact (Go.Proofs.Ytpkckkmgnlhhcaa.Help.V_blk HO_0.out (Go.Proofs.Ytpkckkmgnlhhcaa.Help.pos_of_dec (by assumption)) (by decide) (fun _ hk => hk.2)) | (rw [add_block]; exact (Go.Proofs.Ytpkckkmgnlhhcaa.Help.V_blk HO_0.out (Go.Proofs.Ytpkckkmgnlhhcaa.Help.pos_of_dec (by assumption)) (by decide) (fun _ hk => hk.2))) | (show (Addr.add _ _).block ≠ _; rw [add_block]; exact (Go.Proofs.Ytpkckkmgnlhhcaa.Help.V_blk HO_0.out (Go.Proofs.Ytpkckkmgnlhhcaa.Help.pos_of_dec (by assumption)) (by decide) (fun _ hk => hk.2))) | (dsimp only; exact (Go.Proofs.Ytpkckkmgnlhhcaa.Help.V_blk HO_0.out (Go.Proofs.Ytpkckkmgnlhhcaa.Help.pos_of_dec (by assumption)) (by decide) (fun _ hk => hk.2)))) _).trans (hHeld.1)))), ((cell_far (p := ⟨gb126, _, none⟩) (by first | exact (Go.Proofs.Ytpkckkmgnlhhcaa.Help.V_blk HO_0.out (Go.Proofs.Ytpkckkmgnlhhcaa.Help.pos_of_dec (by assumption)) (by decide) (fun _ hk => hk.2)) | (rw [add_block]; exact (Go.Proofs.Ytpkckkmgnlhhcaa.Help.V_blk HO_0.out (Go.Proofs.Ytpkckkmgnlhhcaa.Help.pos_of_dec (by assumption)) (by decide) (fun _ hk => hk.2))) | (show (Addr.add _ _).block ≠ _; rw [add_block]; exact (Go.Proofs.Ytpkckkmgnlhhcaa.Help.V_blk HO_0.out (Go.Proofs.Ytpkckkmgnlhhcaa.Help.pos_of_dec (by assumption)) (by decide) (fun _ hk => hk.2))) | (dsimp only; exact (Go.Proofs.Ytpkckkmgnlhhcaa.Help.V_blk HO_0.out (Go.Proofs.Ytpkckkmgnlhhcaa.Help.pos_of_dec (by assumption)) (by decide) (fun _ hk => hk.2)))) _).trans (((cell_far (p := ⟨gb126, _, none⟩) (by first | exact (Go.Proofs.Ytpkckkmgnlhhcaa.Help.V_blk HO_0.out (Go.Proofs.Ytpkckkmgnlhhcaa.Help.pos_of_dec (by assumption)) (by decide) (fun _ hk => hk.2)) | (rw [add_block]; exact (Go.Proofs.Ytpkckkmgnlhhcaa.Help.V_blk HO_0.out (Go.Proofs.Ytpkckkmgnlhhcaa.Help.pos_of_dec (by assumption)) (by decide) (fun _ hk => hk.2))) | (show (Addr.add _ _).block ≠ _; rw [add_block]; exact (Go.Proofs.Ytpkckkmgnlhhcaa.Help.V_blk HO_0.out (Go.Proofs.Ytpkckkmgnlhhcaa.Help.pos_of_dec (by assumption)) (by decide) (fun _ hk => hk.2))) | (dsimp only; exact (Go.Proofs.Ytpkckkmgnlhhcaa.Help.V_blk HO_0.out (Go.Proofs.Ytpkckkmgnlhhcaa.Help.pos_of_dec (by assumption)) (by decide) (fun _ hk => hk.2)))) _).trans (hHeld.2))))⟩ (fun hHeld => ?_)
                      clear hK K
                      refine pure_ (i := 11) (N := some 6) (v := ?_) (a' := ?_) #[true, true, true, true, true, true, true, true, true, true, true, true] rfl rfl (any_of HT_.out (by kernel_rfl)) (fun _ _ _ h => h) (Or.inl ⟨by rfl, ?_⟩) ?_ ?_
                      rotate_left
                      · intro w'
                        go_simp
                        with_reducible rfl
                      rotate_left
                      · simp only [Act.put, List.setIfInBounds_toArray, List.set_cons_zero, List.set_cons_succ, i64_w, i32_w]
                        rfl
                      refine done_ (done_of HT_.out (by kernel_rfl)) ?_
                      have n0_ : Aside0 (Kd.V (Kd.int .u8) 5 ((w14.setCell ⟨gb126, 0, none⟩ (.bool ((rd x0_1 0) == 1))).setCell ⟨gb126, 1, none⟩ (.slice none 0 0)) w.heap.size (fun k_ => (P0_ k_ ∨ w.heap.size ≤ k_) ∧ some k_ ≠ (u4 : Value).ownBlock ∧ k_ ≠ gb126) (.slice (some ad124) x0_1.length co4) x0_1) := ⟨by (with_reducible repeat (first | apply Kd.V_alloc | apply Kd.V_drewN | apply Kd.V_drew)); exact Kd.V_mono (Kd.V_far (p := ⟨gb126, 1, none⟩) (Kd.V_far (p := ⟨gb126, 0, none⟩) (Kd.V_mono HO_0.out (fun k_ hk => (⟨hk, hk.2⟩ : _ ∧ k_ ≠ gb126))) (fun _ hk => hk.2) (.bool ((rd x0_1 0) == 1))) (fun _ hk => hk.2) (.slice none 0 0)) (fun _ hk => ⟨hk.1.1.1, ⟨hk.1.1.2, hk.1.2⟩⟩)⟩
                      have n1_ : Aside0 (Kd.S k38 38 ((w14.setCell ⟨gb126, 0, none⟩ (.bool ((rd x0_1 0) == 1))).setCell ⟨gb126, 1, none⟩ (.slice none 0 0)) w.heap.size (fun k_ => (w.heap.size ≤ k_) ∧ k_ ≠ gb126) u4 x4_1) := ⟨by (with_reducible repeat (first | apply Kd.S_alloc | apply Kd.S_drewN | apply Kd.S_drew)); exact Kd.S_mono (Kd.S_far (p := ⟨gb126, 1, none⟩) (Kd.S_far (p := ⟨gb126, 0, none⟩) (Kd.S_mono HO_4.out (fun k_ hk => (⟨hk, hk.2⟩ : _ ∧ k_ ≠ gb126))) (fun _ hk => hk.2) (.bool ((rd x0_1 0) == 1))) (fun _ hk => hk.2) (.slice none 0 0)) (fun _ hk => ⟨hk.1.1, hk.1.2⟩)⟩
                      have n2_ : Aside0 (((w14.setCell ⟨gb126, 0, none⟩ (.bool ((rd x0_1 0) == 1))).setCell ⟨gb126, 1, none⟩ (.slice none 0 0)).heap[gb126]? = some (.cells #[.bool ((rd x0_1 0) == 1), .slice none 0 0] 38 (0, 0))) := ⟨by (with_reducible repeat (first | refine blk_drewN ?_ _ | refine blk_drew ?_ | refine blk_alloc ?_ _)); refine blk_put (cs := #[.bool ((rd x0_1 0) == 1), .slice none 0 0]) ?_ 1 _ rfl; (with_reducible repeat (first | refine blk_drewN ?_ _ | refine blk_drew ?_ | refine blk_alloc ?_ _)); refine blk_put (cs := #[.bool false, .slice none 0 0]) ?_ 0 _ rfl; (with_reducible repeat (first | refine blk_drewN ?_ _ | refine blk_drew ?_ | refine blk_alloc ?_ _)); exact BK126.out⟩
                      have n3_ : Aside0 (Below w.heap.size w ((w14.setCell ⟨gb126, 0, none⟩ (.bool ((rd x0_1 0) == 1))).setCell ⟨gb126, 1, none⟩ (.slice none 0 0))) := ⟨by repeat (first | (with_reducible first | exact HB.out | apply below_alloc | apply pw_below_drewN | apply below_drew1 | refine below_set ?_ GE126.out) | exact HB.out)⟩
                      (try clear HO_0)
                      (try clear HO_4)
                      (try clear BK126)
                      (try clear HB)
                      generalize ((w14.setCell ⟨gb126, 0, none⟩ (.bool ((rd x0_1 0) == 1))).setCell ⟨gb126, 1, none⟩ (.slice none 0 0)) = w17 at n0_ n1_ n2_ n3_ ⊢
                      have HO_0 := n0_
                      have HO_4 := n1_
                      have BK126 := n2_
                      have HB := n3_
                      clear n0_ n1_ n2_ n3_
                      have q18 : (2 : Int) ≤ ((x0_1.length : Int) : Int) := of_decide_eq_true (by first | (with_reducible assumption) | assumption)
                      obtain ⟨i018, hi018, _, hsz18, _⟩ := info_parts info5
                      have hroom18 : x0_1.length ≤ co4 := (Kd.V_reads' HO_0.out).2.1
                      have hC18 : Kd.F (Kd.int .u8) _ _ (some ad124) x0_1.length x0_1 := (Kd.V_at (base := w.heap.size) HO_0.out).2.2
                      have hcut18 := cut_from (P := Try.prog) 25 5 .i64 Try.underlying25 hi018 1 hsz18 (some ad124) x0_1.length co4 2 (by omega) q18
                      have hr18 := Kd.F_cut (m := (2 : Int).toNat) (c := co4) hC18 (by omega) hroom18
                      obtain ⟨A18, hA18⟩ : ∃ A1, A1 = (if co4 = (2 : Int).toNat then (some ad124) else ((some ad124) : Option Addr).map (·.add ((2 : Int).toNat * 1))) := ⟨_, rfl⟩
                      obtain ⟨c18, hc18⟩ : ∃ c1, c1 = co4 - (2 : Int).toNat := ⟨_, rfl⟩
                      have hy18 : y127.length = x0_1.length - (2 : Int).toNat := (by rw [Ny127.out, List.length_drop] <;> omega)
                      rw [show (x0_1).drop (2 : Int).toNat = y127 from Ny127.out.symm] at hr18
                      replace hr18 : Kd.F (Kd.int .u8) _ _ A18 y127.length y127 := (by rw [hA18]; exact hr18)
                      rw [← hy18, ← hA18, ← hc18] at hcut18
                      have HO131 := Aside0.mk (show Kd.V (Kd.int .u8) 5 _ w.heap.size _ (.slice A18 y127.length c18) y127 from Kd.V_mk (by rw [hy18, hc18]; exact Nat.sub_le_sub_right hroom18 _) hr18)
                      have HC131 := Aside0.mk (show y127.length ≤ c18 from by rw [hy18, hc18]; exact Nat.sub_le_sub_right hroom18 _)
                      clear hr18 hC18 hroom18 hi018 hsz18 hc18
                      have KY18 := Aside0.mk hy18
                      have KA18 := Aside0.mk hA18
                      clear hy18 hA18
                      replace q18 := eq_true q18
                      try go_wp2
                      go_ret2
                      exact ⟨_, by first | rfl | (simp [errW_none, errW_some] <;> rfl) | (simp [*, errW_none, errW_some] <;> rfl), by first | exact Kd.S_nil _ _ _ _ _ | exact Kd.N_nil _ _ _ _ _ | exact Kd.V_nil _ _ _ _ _ | exact Kd.Q_nil _ _ _ _ _ | exact Kd.R_nil _ _ _ _ _, by repeat (first | (with_reducible first | exact HB.out | apply below_alloc | apply pw_below_drewN | apply below_drew1 | refine below_set ?_ GE126.out) | exact HB.out)⟩
                    · rw [if_neg c12] at H
                      have c12b0 : decide ((y127.length : Int) < (wrap64 ((wrap64 (rd x0_1 1)) * 4))) = false := decide_eq_false c12
                      clear c12
                      have H' := Aside0.mk H
                      clear H
                      try go_wp2
                      have n0_ := Aside0.mk (Kd.V_drew HO_0.out)
                      have n1_ := Aside0.mk (Kd.S_drew HO_4.out)
                      have n2_ := Aside0.mk (below_drew1 HB.out)
                      clear HO_0
                      clear HO_4
                      clear HB
                      have HO_0 := n0_
                      have HO_4 := n1_
                      have HB := n2_
                      clear n0_ n1_ n2_
                      have p124 : 0 ≤ (0 : Int) := (by omega)
                      have q124 : 0 < (x0_1.length : Int) := of_decide_eq_true (by first | (with_reducible assumption) | assumption)
                      obtain ⟨ad124, e124, hx124_0⟩ := Kd.at_int (Kd.V_reads' HO_0.out).2.2 0 p124 q124
                      cases e124
                      have qi124 : (0 < x0_1.length) = True := eq_true (by omega)
                      (try rw [show ((0 : Int)).toNat = 0 from rfl] at hx124_0)
                      (try rw [Addr.add_zero'] at hx124_0)
                      replace p124 := eq_true p124
                      replace q124 := eq_true q124
                      have p125 : 0 ≤ (1 : Int) := (by omega)
                      have q125 : 1 < (x0_1.length : Int) := of_decide_eq_true (by first | (with_reducible assumption) | assumption)
                      obtain ⟨ad125, e125, hx125_0⟩ := Kd.at_int (Kd.V_reads' HO_0.out).2.2 1 p125 q125
                      obtain rfl : ad124 = ad125 := (by injection e125)
                      (try simp only [show (1 : Int).toNat = 1 from rfl, Nat.reduceMul, Nat.reduceEqDiff, Go.Addr.add, ↓reduceIte] at hx125_0)
                      have qi125 : (1 < x0_1.length) = True := eq_true (by omega)
                      (try rw [show ((1 : Int)).toNat = 1 from rfl] at hx125_0)
                      replace p125 := eq_true p125
                      replace q125 := eq_true q125
                      refine start_ (n := 12) (S := fun w' => w'.cell? ad124 = some (.int .u8 (rd x0_1 0)) ∧ w'.cell? ⟨ad124.block, ad124.off + 1, none⟩ = some (.int .u8 (rd x0_1 1))) (ds := []) #[false, false, false, false, false, false, false, false, false, false, false, false] (by kernel_rfl) rfl rfl ⟨hx124_0, hx125_0⟩ (fun hHeld => ?_); refine with_tabW path_Decode.tab5 path_Decode.bits5 (fun HT_ HW_ => ?_)
                      generalize wc.drew = w19 at HO_0 HO_4 HB hx124_0 hx125_0 hHeld ⊢
                      refine pure_ (i := 0) (N := some 25) (v := ?_) (a' := ?_) #[true, false, false, false, false, false, false, false, false, false, false, false] rfl rfl (any_of HT_.out (by kernel_rfl)) (fun _ _ _ h => h) (Or.inl ⟨by rfl, ?_⟩) ?_ ?_
                      rotate_left
                      · intro w'
                        go_simp
                        with_reducible rfl
                      rotate_left
                      · simp only [Act.put, List.setIfInBounds_toArray, List.set_cons_zero, List.set_cons_succ, i64_w, i32_w]
                        rfl
                      refine pure_ (i := 1) (N := some 26) (v := ?_) (a' := ?_) #[true, true, false, false, false, false, false, false, false, false, false, false] rfl rfl (any_of HT_.out (by kernel_rfl)) (fun _ _ _ h => h) (Or.inl ⟨by rfl, ?_⟩) ?_ ?_
                      rotate_left
                      · intro w'
                        go_simp
                        with_reducible rfl
                      rotate_left
                      · simp only [Act.put, List.setIfInBounds_toArray, List.set_cons_zero, List.set_cons_succ, i64_w, i32_w]
                        rfl
                      refine pure_ (i := 5) (N := some 30) (v := ?_) (a' := ?_) #[true, true, false, false, false, true, false, false, false, false, false, false] rfl rfl (any_of HT_.out (by kernel_rfl)) (fun _ _ _ h => h) (Or.inl ⟨by rfl, ?_⟩) ?_ ?_
                      rotate_left
                      · intro w'
                        go_simp
                        with_reducible rfl
                      rotate_left
                      · simp only [Act.put, List.setIfInBounds_toArray, List.set_cons_zero, List.set_cons_succ, i64_w, i32_w]
                        rfl
                      refine pure_ (i := 6) (N := some 31) (v := ?_) (a' := ?_) #[true, true, false, false, false, true, true, false, false, false, false, false] rfl rfl (any_of HT_.out (by kernel_rfl)) (fun _ _ _ h => h) (Or.inl ⟨by rfl, ?_⟩) ?_ ?_
                      rotate_left
                      · intro w'
                        go_simp
                        with_reducible rfl
                      rotate_left
                      · simp only [Act.put, List.setIfInBounds_toArray, List.set_cons_zero, List.set_cons_succ, i64_w, i32_w]
                        rfl
                      refine take_ (i := 2) (N := some 27) (v := ?_) (a' := ?_) #[true, true, true, false, false, true, true, false, false, false, false, false] rfl rfl (take_ofW HT_.out HW_.out (by kernel_rfl)) (fun _ _ _ h => h) (Or.inl ⟨by rfl, ?_⟩) hHeld ?_ ?_
                      rotate_left
                      · rintro w' ⟨s0, s1⟩
                        go_simp
                        with_reducible rfl
                      rotate_left
                      · simp only [Act.put, List.setIfInBounds_toArray, List.set_cons_zero, List.set_cons_succ, i64_w, i32_w]
                        rfl
                      refine pure_ (i := 3) (N := some 28) (v := ?_) (a' := ?_) #[true, true, true, true, false, true, true, false, false, false, false, false] rfl rfl (any_of HT_.out (by kernel_rfl)) (fun _ _ _ h => h) (Or.inl ⟨by rfl, ?_⟩) ?_ ?_
                      rotate_left
                      · intro w'
                        go_simp
                        with_reducible rfl
                      rotate_left
                      · simp only [Act.put, List.setIfInBounds_toArray, List.set_cons_zero, List.set_cons_succ, i64_w, i32_w]
                        rfl
                      refine pure_ (i := 4) (N := some 29) (v := ?_) (a' := ?_) #[true, true, true, true, true, true, true, false, false, false, false, false] rfl rfl (any_of HT_.out (by kernel_rfl)) (fun _ _ _ h => h) (Or.inl ⟨by rfl, ?_⟩) ?_ ?_
                      rotate_left
                      · intro w'
                        go_simp
                        with_reducible rfl
                      rotate_left
                      · simp only [Act.put, List.setIfInBounds_toArray, List.set_cons_zero, List.set_cons_succ, i64_w, i32_w]
                        rfl
                      refine take_ (i := 7) (N := some 32) (v := ?_) (a' := ?_) #[true, true, true, true, true, true, true, true, false, false, false, false] rfl rfl (take_ofW HT_.out HW_.out (by kernel_rfl)) (fun _ _ _ h => h) (Or.inl ⟨by rfl, ?_⟩) hHeld ?_ ?_
                      rotate_left
                      · rintro w' ⟨s0, s1⟩
                        go_simp
                        with_reducible rfl
                      rotate_left
                      · simp only [Act.put, List.setIfInBounds_toArray, List.set_cons_zero, List.set_cons_succ, i64_w, i32_w]
                        rfl
                      refine pure_ (i := 8) (N := some 33) (v := ?_) (a' := ?_) #[true, true, true, true, true, true, true, true, true, false, false, false] rfl rfl (any_of HT_.out (by kernel_rfl)) (fun _ _ _ h => h) (Or.inl ⟨by rfl, ?_⟩) ?_ ?_
                      rotate_left
                      · intro w'
                        go_simp
                        with_reducible rfl
                      rotate_left
                      · simp only [Act.put, List.setIfInBounds_toArray, List.set_cons_zero, List.set_cons_succ, i64_w, i32_w]
                        rfl
                      refine one_ (i := 9) (N := some 5) #[true, true, true, true, true, true, true, true, true, true, false, false] rfl rfl (one_of HT_.out (by kernel_rfl)) (by decide) (fun K hK => ?_)
                      refine box_step ?hg (N := 5) ?hd (cs := #[.bool false, .slice none 0 0]) (t := 38) ?hr ?_; (case hd => rfl); (case hg => rfl); (case hr => first | (go_simp; done) | (go_simp; rfl) | (go_simp; simp [IntKind.wrap_u8, IntKind.wrap_u32]; done))
                      intro gb126 hg w20 hbox hb
                      have HS0_ := (hb.cell (World.block_lt_of_cell? _ _ (hHeld.1))).trans (hHeld.1)
                      have HS1_ := (hb.cell (World.block_lt_of_cell? _ _ (hHeld.2))).trans (hHeld.2)
                      have n0_ := Aside0.mk (Kd.V_below (Kd.V_elderB (by (with_reducible repeat (first | apply Kd.V_alloc | apply Kd.V_drewN | apply Kd.V_drew)); exact HO_0.out) gb126 (Nat.le_of_eq hg.symm)) hb)
                      have n1_ := Aside0.mk (Kd.S_below (Kd.S_elderB (by (with_reducible repeat (first | apply Kd.S_alloc | apply Kd.S_drewN | apply Kd.S_drew)); exact HO_4.out) gb126 (Nat.le_of_eq hg.symm)) hb)
                      have n2_ := Aside0.mk (below_step (by repeat (first | (with_reducible first | exact HB.out | apply below_alloc | apply pw_below_drewN | apply below_drew1) | exact HB.out)) hb)
                      have n3_ := Aside0.mk (hbox)
                      have n4_ := Aside0.mk ((by rw [hg]; exact (below_size (by repeat (first | (with_reducible first | exact HB.out | apply below_alloc | apply pw_below_drewN | apply below_drew1) | exact HB.out))) : w.heap.size ≤ gb126))
                      have n5_ := Aside0.mk ((by rw [hg]; exact (below_size (by repeat (first | (with_reducible first | exact HB.out | apply below_alloc | apply pw_below_drewN | apply below_drew1) | exact HB.out))) : w.heap.size ≤ gb126))
                      clear HO_0
                      clear HO_4
                      clear HB
                      have HO_0 := n0_
                      have HO_4 := n1_
                      have HB := n2_
                      have BK126 := n3_
                      have GW126 := n4_
                      have GE126 := n5_
                      clear n0_ n1_ n2_ n3_ n4_ n5_
                      clear hb hbox hg
                      refine hK.out _ _ ⟨HS0_, HS1_⟩ (fun hHeld => ?_)
                      clear hK K
                      refine norm_ (a' := ?_) ?_ ?_
                      rotate_left
                      · show Act.put _ (some 5) _ = _
                        simp only [Act.put, List.setIfInBounds_toArray, List.set_cons_zero, List.set_cons_succ, i64_w, i32_w]
                        rfl
                      refine one_ (i := 10) (N := none) #[true, true, true, true, true, true, true, true, true, true, true, false] rfl rfl (one_of HT_.out (by kernel_rfl)) (by decide) (fun K hK => ?_)
                      have hs21 : w20.cell? ⟨gb126, 0, none⟩ = some (.bool false) := (blk_cell BK126.out 0).trans rfl
                      have hfs21 := blk_frozen BK126.out 0
                      have hs22 : w20.cell? ⟨gb126, 1, none⟩ = some (.slice none 0 0) := (blk_cell BK126.out 1).trans rfl
                      have hfs22 := blk_frozen BK126.out 1
                      refine skip_ (w1 := ?_) (by rfl) rfl ?_ ?_
                      rotate_left
                      · go_simp
                        rfl
                      refine hK.out _ _ ⟨((cell_far (p := ⟨gb126, _, none⟩) (by first | exact (Go.Proofs.Ytpkckkmgnlhhcaa.Help.V_blk HO_0.out (Go.Proofs.Ytpkckkmgnlhhcaa.Help.pos_of_dec (by assumption)) (by decide) (fun _ hk => hk.2)) | (rw [add_block]; exact (Go.Proofs.Ytpkckkmgnlhhcaa.Help.V_blk HO_0.out (Go.Proofs.Ytpkckkmgnlhhcaa.Help.pos_of_dec (by assumption)) (by decide) (fun _ hk => hk.2))) | (show (Addr.add _ _).block ≠ _; rw [add_block]; exact (Go.Proofs.Ytpkckkmgnlhhcaa.Help.V_blk HO_0.out (Go.Proofs.Ytpkckkmgnlhhcaa.Help.pos_of_dec (by assumption)) (by decide) (fun _ hk => hk.2))) | (dsimp only; exact (Go.Proofs.Ytpkckkmgnlhhcaa.Help.V_blk HO_0.out (Go.Proofs.Ytpkckkmgnlhhcaa.Help.pos_of_dec (by assumption)) (by decide) (fun _ hk => hk.2)))) _).trans (((cell_far (p := ⟨gb126, _, none⟩) (by first | exact (Go.Proofs.Ytpkckkmgnlhhcaa.Help.V_blk HO_0.out (Go.Proofs.Ytpkckkmgnlhhcaa.Help.pos_of_dec (by assumption)) (by decide) (fun _ hk => hk.2)) | (rw [add_block]; exact (Go.Proofs.Ytpkckkmgnlhhcaa.Help.V_blk HO_0.out (Go.Proofs.Ytpkckkmgnlhhcaa.Help.pos_of_dec (by assumption)) (by decide) (fun _ hk => hk.2))) | (show (Addr.add _ _).block ≠ _; rw [add_block]; exact (Go.Proofs.Ytpkckkmgnlhhcaa.Help.V_blk HO_0.out (Go.Proofs.Ytpkckkmgnlhhcaa.Help.pos_of_dec (by assumption)) (by decide) (fun _ hk => hk.2))) | (dsimp only; exact (Go.Proofs.Ytpkckkmgnlhhcaa.Help.V_blk HO_0.out (Go.Proofs.Ytpkckkmgnlhhcaa.Help.pos_of_dec (by assumption)) (by decide) (fun _ hk => hk.2)))) _).trans (hHeld.1)))), ((cell_far (p := ⟨gb126, _, none⟩) (by first | exact (Go.Proofs.Ytpkckkmgnlhhcaa.Help.V_blk HO_0.out (Go.Proofs.Ytpkckkmgnlhhcaa.Help.pos_of_dec (by assumption)) (by decide) (fun _ hk => hk.2)) | (rw [add_block]; exact (Go.Proofs.Ytpkckkmgnlhhcaa.Help.V_blk HO_0.out (Go.Proofs.Ytpkckkmgnlhhcaa.Help.pos_of_dec (by assumption)) (by decide) (fun _ hk => hk.2))) | (show (Addr.add _ _).block ≠ _; rw [add_block]; exact (Go.Proofs.Ytpkckkmgnlhhcaa.Help.V_blk HO_0.out (Go.Proofs.Ytpkckkmgnlhhcaa.Help.pos_of_dec (by assumption)) (by decide) (fun _ hk => hk.2))) | (dsimp only; exact (Go.Proofs.Ytpkckkmgnlhhcaa.Help.V_blk HO_0.out (Go.Proofs.Ytpkckkmgnlhhcaa.Help.pos_of_dec (by assumption)) (by decide) (fun _ hk => hk.2)))) _).trans (((cell_far (p := ⟨gb126, _, none⟩) (by first | exact (Go.Proofs.Ytpkckkmgnlhhcaa.Help.V_blk HO_0.out (Go.Proofs.Ytpkckkmgnlhhcaa.Help.pos_of_dec (by assumption)) (by decide) (fun _ hk => hk.2)) | (rw [add_block]; exact (Go.Proofs.Ytpkckkmgnlhhcaa.Help.V_blk HO_0.out (Go.Proofs.Ytpkckkmgnlhhcaa.Help.pos_of_dec (by assumption)) (by decide) (fun _ hk => hk.2))) | (show (Addr.add _ _).block ≠ _; rw [add_block]; exact (Go.Proofs.Ytpkckkmgnlhhcaa.Help.V_blk HO_0.out (Go.Proofs.Ytpkckkmgnlhhcaa.Help.pos_of_dec (by assumption)) (by decide) (fun _ hk => hk.2))) | (dsimp only; exact (Go.Proofs.Ytpkckkmgnlhhcaa.Help.V_blk HO_0.out (Go.Proofs.Ytpkckkmgnlhhcaa.Help.pos_of_dec (by assumption)) (by decide) (fun _ hk => hk.2)))) _).trans (hHeld.2))))⟩ (fun hHeld => ?_)
                      clear hK K
                      refine pure_ (i := 11) (N := some 6) (v := ?_) (a' := ?_) #[true, true, true, true, true, true, true, true, true, true, true, true] rfl rfl (any_of HT_.out (by kernel_rfl)) (fun _ _ _ h => h) (Or.inl ⟨by rfl, ?_⟩) ?_ ?_
                      rotate_left
                      · intro w'
                        go_simp
                        with_reducible rfl
                      rotate_left
                      · simp only [Act.put, List.setIfInBounds_toArray, List.set_cons_zero, List.set_cons_succ, i64_w, i32_w]
                        rfl
                      refine done_ (done_of HT_.out (by kernel_rfl)) ?_
                      have n0_ : Aside0 (Kd.V (Kd.int .u8) 5 ((w20.setCell ⟨gb126, 0, none⟩ (.bool ((rd x0_1 0) == 1))).setCell ⟨gb126, 1, none⟩ (.slice none 0 0)) w.heap.size (fun k_ => (P0_ k_ ∨ w.heap.size ≤ k_) ∧ some k_ ≠ (u4 : Value).ownBlock ∧ k_ ≠ gb126) (.slice (some ad124) x0_1.length co4) x0_1) := ⟨by (with_reducible repeat (first | apply Kd.V_alloc | apply Kd.V_drewN | apply Kd.V_drew)); exact Kd.V_mono (Kd.V_far (p := ⟨gb126, 1, none⟩) (Kd.V_far (p := ⟨gb126, 0, none⟩) (Kd.V_mono HO_0.out (fun k_ hk => (⟨hk, hk.2⟩ : _ ∧ k_ ≠ gb126))) (fun _ hk => hk.2) (.bool ((rd x0_1 0) == 1))) (fun _ hk => hk.2) (.slice none 0 0)) (fun _ hk => ⟨hk.1.1.1, ⟨hk.1.1.2, hk.1.2⟩⟩)⟩
                      have n1_ : Aside0 (Kd.S k38 38 ((w20.setCell ⟨gb126, 0, none⟩ (.bool ((rd x0_1 0) == 1))).setCell ⟨gb126, 1, none⟩ (.slice none 0 0)) w.heap.size (fun k_ => (w.heap.size ≤ k_) ∧ k_ ≠ gb126) u4 x4_1) := ⟨by (with_reducible repeat (first | apply Kd.S_alloc | apply Kd.S_drewN | apply Kd.S_drew)); exact Kd.S_mono (Kd.S_far (p := ⟨gb126, 1, none⟩) (Kd.S_far (p := ⟨gb126, 0, none⟩) (Kd.S_mono HO_4.out (fun k_ hk => (⟨hk, hk.2⟩ : _ ∧ k_ ≠ gb126))) (fun _ hk => hk.2) (.bool ((rd x0_1 0) == 1))) (fun _ hk => hk.2) (.slice none 0 0)) (fun _ hk => ⟨hk.1.1, hk.1.2⟩)⟩
                      have n2_ : Aside0 (((w20.setCell ⟨gb126, 0, none⟩ (.bool ((rd x0_1 0) == 1))).setCell ⟨gb126, 1, none⟩ (.slice none 0 0)).heap[gb126]? = some (.cells #[.bool ((rd x0_1 0) == 1), .slice none 0 0] 38 (0, 0))) := ⟨by (with_reducible repeat (first | refine blk_drewN ?_ _ | refine blk_drew ?_ | refine blk_alloc ?_ _)); refine blk_put (cs := #[.bool ((rd x0_1 0) == 1), .slice none 0 0]) ?_ 1 _ rfl; (with_reducible repeat (first | refine blk_drewN ?_ _ | refine blk_drew ?_ | refine blk_alloc ?_ _)); refine blk_put (cs := #[.bool false, .slice none 0 0]) ?_ 0 _ rfl; (with_reducible repeat (first | refine blk_drewN ?_ _ | refine blk_drew ?_ | refine blk_alloc ?_ _)); exact BK126.out⟩
                      have n3_ : Aside0 (Below w.heap.size w ((w20.setCell ⟨gb126, 0, none⟩ (.bool ((rd x0_1 0) == 1))).setCell ⟨gb126, 1, none⟩ (.slice none 0 0))) := ⟨by repeat (first | (with_reducible first | exact HB.out | apply below_alloc | apply pw_below_drewN | apply below_drew1 | refine below_set ?_ GE126.out) | exact HB.out)⟩
                      (try clear HO_0)
                      (try clear HO_4)
                      (try clear BK126)
                      (try clear HB)
                      generalize ((w20.setCell ⟨gb126, 0, none⟩ (.bool ((rd x0_1 0) == 1))).setCell ⟨gb126, 1, none⟩ (.slice none 0 0)) = w23 at n0_ n1_ n2_ n3_ ⊢
                      have HO_0 := n0_
                      have HO_4 := n1_
                      have BK126 := n2_
                      have HB := n3_
                      clear n0_ n1_ n2_ n3_
                      have q24 : (2 : Int) ≤ ((x0_1.length : Int) : Int) := of_decide_eq_true (by first | (with_reducible assumption) | assumption)
                      obtain ⟨i024, hi024, _, hsz24, _⟩ := info_parts info5
                      have hroom24 : x0_1.length ≤ co4 := (Kd.V_reads' HO_0.out).2.1
                      have hC24 : Kd.F (Kd.int .u8) _ _ (some ad124) x0_1.length x0_1 := (Kd.V_at (base := w.heap.size) HO_0.out).2.2
                      have hcut24 := cut_from (P := Try.prog) 25 5 .i64 Try.underlying25 hi024 1 hsz24 (some ad124) x0_1.length co4 2 (by omega) q24
                      have hr24 := Kd.F_cut (m := (2 : Int).toNat) (c := co4) hC24 (by omega) hroom24
                      obtain ⟨A24, hA24⟩ : ∃ A1, A1 = (if co4 = (2 : Int).toNat then (some ad124) else ((some ad124) : Option Addr).map (·.add ((2 : Int).toNat * 1))) := ⟨_, rfl⟩
                      obtain ⟨c24, hc24⟩ : ∃ c1, c1 = co4 - (2 : Int).toNat := ⟨_, rfl⟩
                      have hy24 : y127.length = x0_1.length - (2 : Int).toNat := (by rw [Ny127.out, List.length_drop] <;> omega)
                      rw [show (x0_1).drop (2 : Int).toNat = y127 from Ny127.out.symm] at hr24
                      replace hr24 : Kd.F (Kd.int .u8) _ _ A24 y127.length y127 := (by rw [hA24]; exact hr24)
                      rw [← hy24, ← hA24, ← hc24] at hcut24
                      have HO131 := Aside0.mk (show Kd.V (Kd.int .u8) 5 _ w.heap.size _ (.slice A24 y127.length c24) y127 from Kd.V_mk (by rw [hy24, hc24]; exact Nat.sub_le_sub_right hroom24 _) hr24)
                      have HC131 := Aside0.mk (show y127.length ≤ c24 from by rw [hy24, hc24]; exact Nat.sub_le_sub_right hroom24 _)
                      clear hr24 hC24 hroom24 hi024 hsz24 hc24
                      have KY24 := Aside0.mk hy24
                      have KA24 := Aside0.mk hA24
                      clear hy24 hA24
                      replace q24 := eq_true q24
                      try go_wp2
                      go_loopg [0, 6] kj2 (fun kq v0 v6 w' => ∃ (x0_3 : List Int) (x6_3 : Int) (x127001_3 : List Int) (u127001 : Value), v6 = .int .i64 x6_3 ∧ Aside0 (path_Decode.l1 kq x0_3 x4_1 x6_3 ((rd x0_1 0) == 1) x127001_3 = some (r1, r2)) ∧ Aside0 (kq ≤ kj2) ∧ Aside0 (Kd.V (Kd.int .u8) 5 w' w.heap.size (fun k_ => (P0_ k_ ∨ w.heap.size ≤ k_) ∧ some k_ ≠ (u4 : Value).ownBlock ∧ some k_ ≠ (u127001 : Value).ownBlock ∧ k_ ≠ gb126) v0 x0_3) ∧ Aside0 (Kd.S k38 38 w' w.heap.size (fun k_ => (w.heap.size ≤ k_) ∧ some k_ ≠ (u127001 : Value).ownBlock ∧ k_ ≠ gb126) u4 x4_1) ∧ Aside0 (Kd.R (Kd.int .i64) 3 w' w.heap.size (fun k_ => (w.heap.size ≤ k_)) u127001 x127001_3) ∧ Aside0 (w'.heap[gb126]? = some (.cells #[.bool ((rd x0_1 0) == 1), u127001] 38 (0, 0))) ∧ Aside0 (Below w.heap.size w w'))
                      case atStart => exact ⟨(y127), (wrap64 (rd x0_1 1)), (([] : List Int)), (.slice none 0 0), (by first | rfl | (simp; done) | (simp [*]; done)), H', ⟨Nat.le_refl _⟩, ⟨by (with_reducible repeat (first | apply Kd.V_alloc | apply Kd.V_drewN | apply Kd.V_drew)); exact Kd.V_mono HO131.out (fun _ hk => ⟨hk.1, ⟨hk.2.1, ⟨(by simp [Value.ownBlock]), hk.2.2⟩⟩⟩)⟩, ⟨by (with_reducible repeat (first | apply Kd.S_alloc | apply Kd.S_drewN | apply Kd.S_drew)); exact Kd.S_mono HO_4.out (fun _ hk => ⟨hk.1, ⟨(by simp [Value.ownBlock]), hk.2⟩⟩)⟩, ⟨by first | exact Kd.R_nil _ _ _ _ _ | exact Kd.N_nil _ _ _ _ _ | exact Kd.V_nil _ _ _ _ _ | exact Kd.Q_nil _ _ _ _ _ | exact Kd.S_nil _ _ _ _ _⟩, ⟨by (with_reducible repeat (first | refine blk_drewN ?_ _ | refine blk_drew ?_ | refine blk_alloc ?_ _)); exact BK126.out⟩, ⟨by repeat (first | (with_reducible first | exact HB.out | apply below_alloc | apply pw_below_drewN | apply below_drew1 | refine below_set ?_ GE126.out) | exact HB.out)⟩⟩
                      case round =>
                        clear H'
                        try clear c1
                        try clear p1
                        try clear q1
                        try clear hx1
                        try clear qi1
                        try clear c2
                        try clear c2b0
                        try clear c2b1
                        try clear p2
                        try clear q2
                        try clear c5
                        try clear c5b0
                        try clear c5b1
                        try clear c6
                        try clear c6b0
                        try clear c6b1
                        try clear p6
                        try clear c7
                        try clear c7b0
                        try clear c7b1
                        try clear c8
                        try clear c9
                        try clear c9b0
                        try clear c9b1
                        try clear c10
                        try clear c10b0
                        try clear c10b1
                        try clear c11
                        try clear c11b0
                        try clear c11b1
                        try clear c12
                        try clear c12b0
                        try clear p12
                        try clear q12
                        try clear hx12
                        try clear qi12
                        try clear c18
                        try clear q18
                        try clear c19
                        try clear c24
                        try clear q24
                        try clear hx122_0
                        try clear hx123_0
                        try clear hx124_0
                        try clear hx125_0
                        try clear p1
                        try clear p122
                        try clear p123
                        try clear p124
                        try clear p125
                        try clear p2
                        try clear q1
                        try clear q122
                        try clear q123
                        try clear q124
                        try clear q125
                        try clear q18
                        try clear q24
                        obtain ⟨x0_3, x6_3, x127001_3, u127001, rfl, HA, HK3, HO_0, HO_4, HO_127001, BK126, HB⟩ := hrel
                        cases gk with
                        | zero => exact absurd HA.out (by simp [path_Decode.l1])
                        | succ k3 =>
                          have H := HA.out
                          clear HA
                          simp only [path_Decode.l1] at H
                          by_cases c25 : x6_3 > 0
                          · rw [if_pos c25] at H
                            have c25b0 : decide (0 < x6_3) = true := decide_eq_true c25
                            clear c25
                            replace H := Option.bind_eq_some_iff.mp H
                            obtain ⟨t135, A260, H⟩ := H
                            replace H : (if x127001_3.length < 17592186044416 then (if 4 ≤ (x0_3.length : Int) then (path_Decode.l1 k3 (x0_3.drop 4) x4_1 (wrap64 (x6_3 - 1)) ((rd x0_1 0) == 1) (x127001_3 ++ [wrap64 (t135)])) else (none)) else (none)) = some (r1, r2) := H
                            have A26 := Aside0.mk A260
                            clear A260
                            by_cases c27 : x127001_3.length < 17592186044416
                            · rw [if_pos c27] at H
                              have LMc27 := Aside0.mk c27
                              clear c27
                              obtain ⟨y136, hy136⟩ : ∃ y_ : List Int, y_ = (x127001_3 ++ [wrap64 (t135)]) := ⟨_, rfl⟩
                              replace H : (if 4 ≤ (x0_3.length : Int) then (path_Decode.l1 k3 (x0_3.drop 4) x4_1 (wrap64 (x6_3 - 1)) ((rd x0_1 0) == 1) y136) else (none)) = some (r1, r2) := by first | (rw [hy136]; with_reducible exact H) | (have H2_ := (Option.bind_some _ _).symm.trans H; rw [hy136]; with_reducible exact H2_) | (have H2_ := (Option.bind_some _ _).symm.trans H; with_reducible exact H2_) | with_reducible exact H | (rw [hy136]; exact H) | exact H
                              have Ny136 := Aside0.mk hy136
                              clear hy136
                              by_cases c28 : 4 ≤ (x0_3.length : Int)
                              · rw [if_pos c28] at H
                                have c28b0 := eq_true c28
                                have c28b1 : decide (4 ≤ (x0_3.length : Int)) = true := decide_eq_true c28
                                clear c28
                                obtain ⟨y139, hy139⟩ : ∃ y_ : List Int, y_ = (x0_3.drop 4) := ⟨_, rfl⟩
                                replace H : (path_Decode.l1 k3 y139 x4_1 (wrap64 (x6_3 - 1)) ((rd x0_1 0) == 1) y136) = some (r1, r2) := by first | (rw [hy139]; with_reducible exact H) | (have H2_ := (Option.bind_some _ _).symm.trans H; rw [hy139]; with_reducible exact H2_) | (have H2_ := (Option.bind_some _ _).symm.trans H; with_reducible exact H2_) | with_reducible exact H | (rw [hy139]; exact H) | exact H
                                have Ny139 := Aside0.mk hy139
                                clear hy139
                                have H' := Aside0.mk H
                                clear H
                                try go_wp2
                                have n0_ := Aside0.mk (Kd.V_drew HO_0.out)
                                have n1_ := Aside0.mk (Kd.S_drew HO_4.out)
                                have n2_ := Aside0.mk (Kd.R_drew HO_127001.out)
                                have n3_ := Aside0.mk (blk_drew BK126.out)
                                have n4_ := Aside0.mk (below_drew1 HB.out)
                                clear HO_0
                                clear HO_4
                                clear HO_127001
                                clear BK126
                                clear HB
                                have HO_0 := n0_
                                have HO_4 := n1_
                                have HO_127001 := n2_
                                have BK126 := n3_
                                have HB := n4_
                                clear n0_ n1_ n2_ n3_ n4_
                                obtain ⟨Ao30, co30, eo30⟩ := Kd.V_slice HO_0.out
                                (first | subst eo30 | (injection eo30 with f1_ f2_ f3_; have f4_ := f1_.symm; have f5_ := f3_.symm; clear f1_ f2_ f3_; subst f4_; subst f5_))
                                refine start_ (n := 9) (S := fun w' => w'.cell? ⟨gb126, 0, none⟩ = some (.bool ((rd x0_1 0) == 1)) ∧ w'.cell? ⟨gb126, 1, none⟩ = some (u127001)) (ds := [8]) #[false, false, false, false, false, false, false, false, false] (by kernel_rfl) rfl rfl ⟨(blk_cell BK126.out 0).trans rfl, (blk_cell BK126.out 1).trans rfl⟩ (fun hHeld => ?_); refine with_tabW path_Decode.tab11 path_Decode.bits11 (fun HT_ HW_ => ?_)
                                generalize wr.drew = w29 at HO_0 HO_4 HO_127001 BK126 HB hHeld ⊢
                                refine pure_ (i := 0) (N := some 45) (v := ?_) (a' := ?_) #[true, false, false, false, false, false, false, false, false] rfl rfl (any_of HT_.out (by kernel_rfl)) (fun _ _ _ h => h) (Or.inl ⟨by rfl, ?_⟩) ?_ ?_
                                rotate_left
                                · intro w'
                                  go_simp
                                  with_reducible rfl
                                rotate_left
                                · simp only [Act.put, List.setIfInBounds_toArray, List.set_cons_zero, List.set_cons_succ, i64_w, i32_w]
                                  rfl
                                refine pure_ (i := 2) (N := some 47) (v := ?_) (a' := ?_) #[true, false, true, false, false, false, false, false, false] rfl rfl (any_of HT_.out (by kernel_rfl)) (fun _ _ _ h => h) (Or.inl ⟨by rfl, ?_⟩) ?_ ?_
                                rotate_left
                                · intro w'
                                  go_simp
                                  with_reducible rfl
                                rotate_left
                                · simp only [Act.put, List.setIfInBounds_toArray, List.set_cons_zero, List.set_cons_succ, i64_w, i32_w]
                                  rfl
                                refine take_ (i := 1) (N := some 46) (v := ?_) (a' := ?_) #[true, true, true, false, false, false, false, false, false] rfl rfl (take_ofW HT_.out HW_.out (by kernel_rfl)) (fun _ _ _ h => h) (Or.inl ⟨by rfl, ?_⟩) hHeld ?_ ?_
                                rotate_left
                                · rintro w' ⟨s0, s1⟩
                                  go_simp
                                  with_reducible rfl
                                rotate_left
                                · simp only [Act.put, List.setIfInBounds_toArray, List.set_cons_zero, List.set_cons_succ, i64_w, i32_w]
                                  rfl
                                refine one_ (i := 3) (N := some 48) #[true, true, true, true, false, false, false, false, false] rfl rfl (one_of HT_.out (by kernel_rfl)) (by decide) (fun K hK => ?_)
                                refine goes_ Try.func46 (by kernel_rfl) rfl #[.slice Ao30 x0_3.length co30] (by rfl) rfl rfl (by (try simp only [List.map_toArray, List.map_cons, List.map_nil]); first | done | rfl | (simp only [List.length_drop, List.length_take]; rfl)) ?_
                                with_reducible refine (region_Get.calls _ _ x0_3 t135 _ ?side1 ?side2 A26.out).mono ?_
                                (case side1 => repeat (first | exact (Kd.V_reads' HO_0.out).2.2 | (with_reducible refine Kd.C_alloc ?_ _) | (with_reducible refine Kd.C_drewN ?_ _) | (with_reducible refine Kd.C_drew ?_)))
                                (case side2 => exact (Kd.V_reads' HO_0.out).2.1)
                                rintro e w' ⟨rfl, ⟨nd, rfl⟩⟩
                                refine ⟨_, rfl, ?_⟩
                                refine hK.out _ _ ⟨(blk_cell BK126.out 0).trans rfl, (blk_cell BK126.out 1).trans rfl⟩ (fun hHeld => ?_)
                                clear hK K
                                refine norm_ (a' := ?_) ?_ ?_
                                rotate_left
                                · show Act.put _ (some 48) _ = _
                                  simp only [Act.put, List.setIfInBounds_toArray, List.set_cons_zero, List.set_cons_succ, i64_w, i32_w]
                                  rfl
                                refine pure_ (i := 4) (N := some 49) (v := ?_) (a' := ?_) #[true, true, true, true, true, false, false, false, false] rfl rfl (any_of HT_.out (by kernel_rfl)) (fun _ _ _ h => h) (Or.inl ⟨by rfl, ?_⟩) ?_ ?_
                                rotate_left
                                · intro w'
                                  go_simp
                                  with_reducible rfl
                                rotate_left
                                · simp only [Act.put, List.setIfInBounds_toArray, List.set_cons_zero, List.set_cons_succ, i64_w, i32_w]
                                  rfl
                                refine one_ (i := 5) (N := some 50) #[true, true, true, true, true, true, false, false, false] rfl rfl (one_of HT_.out (by kernel_rfl)) (by decide) (fun K hK => ?_)
                                refine value_ (w1 := ?_) (v := ?_) (by rfl) rfl ?_ ?_
                                rotate_left 2
                                · go_simp
                                  constructor
                                  · rfl
                                  · rfl
                                refine hK.out _ _ ⟨(blk_cell (blk_alloc BK126.out _) 0).trans rfl, (blk_cell (blk_alloc BK126.out _) 1).trans rfl⟩ (fun hHeld => ?_)
                                clear hK K
                                refine norm_ (a' := ?_) ?_ ?_
                                rotate_left
                                · show Act.put _ (some 50) _ = _
                                  simp only [Act.put, List.setIfInBounds_toArray, List.set_cons_zero, List.set_cons_succ, i64_w, i32_w]
                                  rfl
                                refine one_ (i := 6) (N := some 51) #[true, true, true, true, true, true, true, false, false] rfl rfl (one_of HT_.out (by kernel_rfl)) (by decide) (fun K hK => ?_)
                                refine Kd.R_append_step (Kd.int .i64) (w0 := w) w.heap.size (by rfl) (.tmp 46) (.tmp 50) 36 3 (.int .i64 0) 8 rfl Try.underlying36 info3 rfl (by decide) (by omega) u127001 x127001_3 (wrap64 (t135)) [.int .i64 (wrap64 (t135))] (fun k_ => (w.heap.size ≤ k_)) (fun _ => False) rfl rfl ?aP (fun _ hk => hk.elim) ?aF ?aO ?aB ?aS ?aL ?_
                                (case aP => exact rfl)
                                (case aB => exact (by repeat (first | (with_reducible first | exact HB.out | apply below_alloc | apply pw_below_drewN | apply below_drew1 | refine below_set ?_ GE126.out) | exact HB.out)))
                                (case aF => exact (fun k_ hk => (Nat.le_trans (below_size (by repeat (first | (with_reducible first | exact HB.out | apply below_alloc | apply pw_below_drewN | apply below_drew1 | refine below_set ?_ GE126.out) | exact HB.out))) hk)))
                                (case aO => exact (by (with_reducible repeat (first | apply Kd.R_alloc | apply Kd.R_drewN | apply Kd.R_drew)); exact HO_127001.out))
                                (case aS => exact (below_size (by repeat (first | (with_reducible first | exact HB.out | apply below_alloc | apply pw_below_drewN | apply below_drew1 | refine below_set ?_ GE126.out) | exact HB.out))))
                                (case aL => have := LMc27.out; omega)
                                intro v137 w31 ho hb hg hat
                                rw [← Ny136.out] at ho
                                have n0_ := Aside0.mk (Kd.V_afterv (ok := (fun k_ => (P0_ k_ ∨ w.heap.size ≤ k_) ∧ some k_ ≠ (u4 : Value).ownBlock ∧ k_ ≠ gb126)) (by (with_reducible repeat (first | apply Kd.V_alloc | apply Kd.V_drewN | apply Kd.V_drew)); exact Kd.V_mono HO_0.out (fun _ hk => ⟨⟨hk.1, ⟨hk.2.1, hk.2.2.2⟩⟩, hk.2.2.1⟩)) hg hat)
                                have n1_ := Aside0.mk (Kd.S_after (ok := (fun k_ => (w.heap.size ≤ k_) ∧ k_ ≠ gb126)) (by (with_reducible repeat (first | apply Kd.S_alloc | apply Kd.S_drewN | apply Kd.S_drew)); exact Kd.S_mono HO_4.out (fun _ hk => ⟨⟨hk.1, hk.2.2⟩, hk.2.1⟩)) hg hat)
                                have n2_ := Aside0.mk (blk_grown (g := gb126) (o := .cells #[.bool ((rd x0_1 0) == 1), u127001] 38 (0, 0)) (by (with_reducible repeat (first | refine blk_drewN ?_ _ | refine blk_drew ?_ | refine blk_alloc ?_ _)); exact BK126.out) hg (Kd.R_ne HO_127001.out BK126.out (by decide)))
                                have n3_ := Aside0.mk (hb)
                                have n4_ := Aside0.mk (ho)
                                clear HO_0
                                clear HO_4
                                clear BK126
                                clear HB
                                clear HO_127001
                                have HO_0 := n0_
                                have HO_4 := n1_
                                have BK126 := n2_
                                have HB := n3_
                                have HO138 := n4_
                                clear n0_ n1_ n2_ n3_ n4_
                                clear ho hb hg hat
                                obtain ⟨Ao32, co32, eo32⟩ := Kd.R_slice HO138.out
                                (first | subst eo32 | (injection eo32 with f1_ f2_ f3_; have f4_ := f1_.symm; have f5_ := f3_.symm; clear f1_ f2_ f3_; subst f4_; subst f5_))
                                refine hK.out _ _ ⟨(blk_cell BK126.out 0).trans rfl, (blk_cell BK126.out 1).trans rfl⟩ (fun hHeld => ?_)
                                clear hK K
                                refine norm_ (a' := ?_) ?_ ?_
                                rotate_left
                                · show Act.put _ (some 51) _ = _
                                  simp only [Act.put, List.setIfInBounds_toArray, List.set_cons_zero, List.set_cons_succ, i64_w, i32_w]
                                  rfl
                                refine pure_ (i := 7) (N := some 52) (v := ?_) (a' := ?_) #[true, true, true, true, true, true, true, true, false] rfl rfl (any_of HT_.out (by kernel_rfl)) (fun _ _ _ h => h) (Or.inl ⟨by rfl, ?_⟩) ?_ ?_
                                rotate_left
                                · intro w'
                                  go_simp
                                  with_reducible rfl
                                rotate_left
                                · simp only [Act.put, List.setIfInBounds_toArray, List.set_cons_zero, List.set_cons_succ, i64_w, i32_w]
                                  rfl
                                refine last_ (i := 8) (N := none) #[true, true, true, true, true, true, true, true, true] rfl rfl (one_of HT_.out (by kernel_rfl)) (by decide) (fun K hK => ?_)
                                have hs33 : w31.cell? ⟨gb126, 1, none⟩ = some (u127001) := (blk_cell BK126.out 1).trans rfl
                                have hfs33 := blk_frozen BK126.out 1
                                refine skip_ (w1 := ?_) (by rfl) rfl ?_ ?_
                                rotate_left
                                · go_simp
                                  rfl
                                refine hK.out _ _ ?_
                                clear hK K
                                refine done_ (done_of HT_.out (by kernel_rfl)) ?_
                                have n0_ : Aside0 (Kd.V (Kd.int .u8) 5 (w31.setCell ⟨gb126, 1, none⟩ (.slice Ao32 y136.length co32)) w.heap.size (fun k_ => (P0_ k_ ∨ w.heap.size ≤ k_) ∧ some k_ ≠ (u4 : Value).ownBlock ∧ some k_ ≠ (.slice Ao32 y136.length co32 : Value).ownBlock ∧ k_ ≠ gb126) (.slice Ao30 x0_3.length co30) x0_3) := ⟨by (with_reducible repeat (first | apply Kd.V_alloc | apply Kd.V_drewN | apply Kd.V_drew)); exact Kd.V_mono (Kd.V_far (p := ⟨gb126, 1, none⟩) (Kd.V_mono HO_0.out (fun k_ hk => (⟨hk, hk.1.2.2⟩ : _ ∧ k_ ≠ gb126))) (fun _ hk => hk.2) (.slice Ao32 y136.length co32)) (fun _ hk => ⟨hk.1.1.1, ⟨hk.1.1.2.1, ⟨hk.1.2, hk.1.1.2.2⟩⟩⟩)⟩
                                have n1_ : Aside0 (Kd.S k38 38 (w31.setCell ⟨gb126, 1, none⟩ (.slice Ao32 y136.length co32)) w.heap.size (fun k_ => (w.heap.size ≤ k_) ∧ some k_ ≠ (.slice Ao32 y136.length co32 : Value).ownBlock ∧ k_ ≠ gb126) u4 x4_1) := ⟨by (with_reducible repeat (first | apply Kd.S_alloc | apply Kd.S_drewN | apply Kd.S_drew)); exact Kd.S_mono (Kd.S_far (p := ⟨gb126, 1, none⟩) (Kd.S_mono HO_4.out (fun k_ hk => (⟨hk, hk.1.2⟩ : _ ∧ k_ ≠ gb126))) (fun _ hk => hk.2) (.slice Ao32 y136.length co32)) (fun _ hk => ⟨hk.1.1.1, ⟨hk.1.2, hk.1.1.2⟩⟩)⟩
                                have n2_ : Aside0 (Kd.R (Kd.int .i64) 3 (w31.setCell ⟨gb126, 1, none⟩ (.slice Ao32 y136.length co32)) w.heap.size (fun k_ => (w.heap.size ≤ k_)) (.slice Ao32 y136.length co32) y136) := ⟨by (with_reducible repeat (first | apply Kd.R_alloc | apply Kd.R_drewN | apply Kd.R_drew)); exact Kd.R_mono (Kd.R_far (p := ⟨gb126, 1, none⟩) (Kd.R_types HO138.out BK126.out (by decide)) (fun _ hk => hk.2) (.slice Ao32 y136.length co32)) (fun _ hk => hk.1)⟩
                                have n3_ : Aside0 ((w31.setCell ⟨gb126, 1, none⟩ (.slice Ao32 y136.length co32)).heap[gb126]? = some (.cells #[.bool ((rd x0_1 0) == 1), .slice Ao32 y136.length co32] 38 (0, 0))) := ⟨by (with_reducible repeat (first | refine blk_drewN ?_ _ | refine blk_drew ?_ | refine blk_alloc ?_ _)); refine blk_put (cs := #[.bool ((rd x0_1 0) == 1), u127001]) ?_ 1 _ rfl; (with_reducible repeat (first | refine blk_drewN ?_ _ | refine blk_drew ?_ | refine blk_alloc ?_ _)); exact BK126.out⟩
                                have n4_ : Aside0 (Below w.heap.size w (w31.setCell ⟨gb126, 1, none⟩ (.slice Ao32 y136.length co32))) := ⟨by repeat (first | (with_reducible first | exact HB.out | apply below_alloc | apply pw_below_drewN | apply below_drew1 | refine below_set ?_ GE126.out) | exact HB.out)⟩
                                (try clear HO_0)
                                (try clear HO_4)
                                (try clear HO138)
                                (try clear BK126)
                                (try clear HB)
                                generalize (w31.setCell ⟨gb126, 1, none⟩ (.slice Ao32 y136.length co32)) = w34 at n0_ n1_ n2_ n3_ n4_ ⊢
                                have HO_0 := n0_
                                have HO_4 := n1_
                                have HO138 := n2_
                                have BK126 := n3_
                                have HB := n4_
                                clear n0_ n1_ n2_ n3_ n4_
                                have q35 : (4 : Int) ≤ ((x0_3.length : Int) : Int) := of_decide_eq_true (by first | (with_reducible assumption) | assumption)
                                obtain ⟨i035, hi035, _, hsz35, _⟩ := info_parts info5
                                have hroom35 : x0_3.length ≤ co30 := (Kd.V_reads' HO_0.out).2.1
                                have hC35 : Kd.F (Kd.int .u8) _ _ Ao30 x0_3.length x0_3 := (Kd.V_at (base := w.heap.size) HO_0.out).2.2
                                have hcut35 := cut_from (P := Try.prog) 25 5 .i64 Try.underlying25 hi035 1 hsz35 Ao30 x0_3.length co30 4 (by omega) q35
                                have hr35 := Kd.F_cut (m := (4 : Int).toNat) (c := co30) hC35 (by omega) hroom35
                                obtain ⟨A35, hA35⟩ : ∃ A1, A1 = (if co30 = (4 : Int).toNat then Ao30 else (Ao30 : Option Addr).map (·.add ((4 : Int).toNat * 1))) := ⟨_, rfl⟩
                                obtain ⟨c35, hc35⟩ : ∃ c1, c1 = co30 - (4 : Int).toNat := ⟨_, rfl⟩
                                have hy35 : y139.length = x0_3.length - (4 : Int).toNat := (by rw [Ny139.out, List.length_drop] <;> omega)
                                rw [show (x0_3).drop (4 : Int).toNat = y139 from Ny139.out.symm] at hr35
                                replace hr35 : Kd.F (Kd.int .u8) _ _ A35 y139.length y139 := (by rw [hA35]; exact hr35)
                                rw [← hy35, ← hA35, ← hc35] at hcut35
                                have HO143 := Aside0.mk (show Kd.V (Kd.int .u8) 5 _ w.heap.size _ (.slice A35 y139.length c35) y139 from Kd.V_mk (by rw [hy35, hc35]; exact Nat.sub_le_sub_right hroom35 _) hr35)
                                have HC143 := Aside0.mk (show y139.length ≤ c35 from by rw [hy35, hc35]; exact Nat.sub_le_sub_right hroom35 _)
                                clear hr35 hC35 hroom35 hi035 hsz35 hc35
                                have KY35 := Aside0.mk hy35
                                have KA35 := Aside0.mk hA35
                                clear hy35 hA35
                                replace q35 := eq_true q35
                                try go_wp2
                                go_roundg k3
                                case measure => have := HK1.out; have := HJ2.out; have := HK3.out; omega
                                case rel => exact ⟨(y139), (wrap64 (x6_3 - 1)), (y136), (.slice Ao32 y136.length co32), (by first | rfl | (simp; done) | (simp [*]; done)), H', ⟨by have := HK1.out; have := HJ2.out; have := HK3.out; omega⟩, ⟨by (with_reducible repeat (first | apply Kd.V_alloc | apply Kd.V_drewN | apply Kd.V_drew)); exact HO143.out⟩, ⟨by (with_reducible repeat (first | apply Kd.S_alloc | apply Kd.S_drewN | apply Kd.S_drew)); exact HO_4.out⟩, ⟨by (with_reducible repeat (first | apply Kd.R_alloc | apply Kd.R_drewN | apply Kd.R_drew)); exact HO138.out⟩, ⟨by (with_reducible repeat (first | refine blk_drewN ?_ _ | refine blk_drew ?_ | refine blk_alloc ?_ _)); exact BK126.out⟩, ⟨by repeat (first | (with_reducible first | exact HB.out | apply below_alloc | apply pw_below_drewN | apply below_drew1 | refine below_set ?_ GE126.out) | exact HB.out)⟩⟩
                              · rw [if_neg c28] at H
                                exact absurd H (by simp)
                            · rw [if_neg c27] at H
                              exact absurd H (by simp)
                          · rw [if_neg c25] at H
                            have c25b0 : decide (0 < x6_3) = false := decide_eq_false c25
                            clear c25
                            by_cases c36 : x4_1.length < 4398046511104
                            · rw [if_pos c36] at H
                              have LMc36 := Aside0.mk c36
                              clear c36
                              obtain ⟨y132, hy132⟩ : ∃ y_ : List (S38), y_ = (x4_1 ++ [(⟨((rd x0_1 0) == 1), x127001_3⟩ : S38)]) := ⟨_, rfl⟩
                              replace H : (path_Decode.l0 k3 x0_3 y132) = some (r1, r2) := by first | (rw [hy132]; with_reducible exact H) | (have H2_ := (Option.bind_some _ _).symm.trans H; rw [hy132]; with_reducible exact H2_) | (have H2_ := (Option.bind_some _ _).symm.trans H; with_reducible exact H2_) | with_reducible exact H | (rw [hy132]; exact H) | exact H
                              have Ny132 := Aside0.mk hy132
                              clear hy132
                              have H' := Aside0.mk H
                              clear H
                              have hcz37_0 : wr.cell? ⟨gb126, 0, none⟩ = some (.bool ((rd x0_1 0) == 1)) := (blk_cell BK126.out 0).trans rfl
                              have hcz37_1 : wr.cell? ⟨gb126, 1, none⟩ = some (u127001) := (blk_cell BK126.out 1).trans rfl
                              have hfz37_0 := blk_frozen BK126.out 0
                              have hfz37_1 := blk_frozen BK126.out 1
                              obtain ⟨Ao39, co39, eo39⟩ := Kd.R_slice HO_127001.out
                              subst eo39
                              go_wp2_with (first | ((with_reducible refine gate_builtin (b := .append) (xs := #[.tmp 55, .tmp 57]) rfl ?_); at_builtin; refine Kd.S_append k38 (w0 := w) w.heap.size rfl (.tmp 55) (.tmp 57) 22 38 (.agg #[(.bool false), (.slice none 0 0)]) 32 rfl Try.underlying22 info38 rfl (by decide) (by omega) u4 x4_1 (⟨((rd x0_1 0) == 1), x127001_3⟩ : S38) [.bool ((rd x0_1 0) == 1), .slice Ao39 x127001_3.length co39] (fun k_ => (w.heap.size ≤ k_) ∧ k_ ≠ gb126) (fun k_ => some k_ = (.slice Ao39 x127001_3.length co39 : Value).ownBlock) rfl rfl ?aP (fun k_ hk_ => ((Kd.R_mono (ok' := fun k_ => ((fun k_ => (w.heap.size ≤ k_) ∧ k_ ≠ gb126)) k_ ∧ some k_ ≠ (u4 : Value).ownBlock) (Kd.R_types (Kd.R_apart' (HO_127001.out) (Kd.S_typed HO_4.out) (by decide)) BK126.out (by decide)) (fun k_ hk => ⟨⟨hk.1.1, hk.2⟩, hk.1.2⟩))).1 k_ hk_.symm) ?aF ?aO ?aB ?aS ?aL ?_; (case aP => exact k38_mkM _ _ _ (⟨((rd x0_1 0) == 1), x127001_3⟩ : S38) (Kd.R_mono (Kd.R_tight rfl (Kd.R_mono (ok' := fun k_ => ((fun k_ => (w.heap.size ≤ k_) ∧ k_ ≠ gb126)) k_ ∧ some k_ ≠ (u4 : Value).ownBlock) (Kd.R_types (Kd.R_apart' (HO_127001.out) (Kd.S_typed HO_4.out) (by decide)) BK126.out (by decide)) (fun k_ hk => ⟨⟨hk.1.1, hk.2⟩, hk.1.2⟩))) (fun _ h_ => h_))); (case aB => exact (by repeat (first | (with_reducible first | exact HB.out | apply below_alloc | apply pw_below_drewN | apply below_drew1 | refine below_set ?_ GE126.out) | exact HB.out))); (case aF => exact (fun k_ hk => ⟨(Nat.le_trans (below_size (by repeat (first | (with_reducible first | exact HB.out | apply below_alloc | apply pw_below_drewN | apply below_drew1 | refine below_set ?_ GE126.out) | exact HB.out))) hk), Kd.freshB (g := gb126) (o := .cells #[.bool ((rd x0_1 0) == 1), .slice Ao39 x127001_3.length co39] 38 (0, 0)) (by (with_reducible repeat (first | refine blk_drewN ?_ _ | refine blk_drew ?_ | refine blk_alloc ?_ _)); exact BK126.out) k_ hk⟩)); (case aO => exact (by (with_reducible repeat (first | apply Kd.S_alloc | apply Kd.S_drewN | apply Kd.S_drew)); exact Kd.S_mono HO_4.out (fun k_ hk => ⟨⟨hk.1, hk.2.2⟩, fun e_ => hk.2.1 e_⟩))); (case aS => exact (below_size (by repeat (first | (with_reducible first | exact HB.out | apply below_alloc | apply pw_below_drewN | apply below_drew1 | refine below_set ?_ GE126.out) | exact HB.out)))); (case aL => have := LMc36.out; omega); intro v133 w38 ho hb hg hat; rw [← Ny132.out] at ho; have n0_ := Aside0.mk (Kd.V_afterv (ok := (fun k_ => (P0_ k_ ∨ w.heap.size ≤ k_) ∧ some k_ ≠ (.slice Ao39 x127001_3.length co39 : Value).ownBlock ∧ k_ ≠ gb126)) (by (with_reducible repeat (first | apply Kd.V_alloc | apply Kd.V_drewN | apply Kd.V_drew)); exact Kd.V_mono HO_0.out (fun _ hk => ⟨⟨hk.1, ⟨hk.2.2.1, hk.2.2.2⟩⟩, hk.2.1⟩)) hg hat); have n1_ := Aside0.mk (blk_grown (g := gb126) (o := .cells #[.bool ((rd x0_1 0) == 1), .slice Ao39 x127001_3.length co39] 38 (0, 0)) (by (with_reducible repeat (first | refine blk_drewN ?_ _ | refine blk_drew ?_ | refine blk_alloc ?_ _)); exact BK126.out) hg (Kd.S_away HO_4.out (fun _ hk => hk.2.2))); have n2_ := Aside0.mk (hb); have n3_ := Aside0.mk (ho); clear HO_0; clear BK126; clear HB; clear HO_4; clear HO_127001; have HO_0 := n0_; have BK126 := n1_; have HB := n2_; have HO134 := n3_; clear n0_ n1_ n2_ n3_; clear ho hb hg hat))
                              go_roundg k3
                              case measure => have := HK1.out; have := HJ2.out; have := HK3.out; omega
                              case rel => exact ⟨(x0_3), (y132), H', ⟨by have := HK1.out; have := HJ2.out; have := HK3.out; omega⟩, ⟨by (with_reducible repeat (first | apply Kd.V_alloc | apply Kd.V_drewN | apply Kd.V_drew)); exact Kd.V_mono HO_0.out (fun _ hk => ⟨hk.1.1, hk.2⟩)⟩, ⟨by (with_reducible repeat (first | apply Kd.S_alloc | apply Kd.S_drewN | apply Kd.S_drew)); exact Kd.S_mono HO134.out (fun _ hk => hk.1)⟩, ⟨by repeat (first | (with_reducible first | exact HB.out | apply below_alloc | apply pw_below_drewN | apply below_drew1 | refine below_set ?_ GE126.out) | exact HB.out)⟩⟩
                            · rw [if_neg c36] at H
                              exact absurd H (by simp)
                  · rw [if_neg c11] at H
                    exact absurd H (by simp)
                · rw [if_neg c10] at H
                  exact absurd H (by simp)
              · rw [if_neg c9] at H
                exact absurd H (by simp)
      · rw [if_neg c2] at H
        have c2b0 : decide (0 < (x0_1.length : Int)) = false := decide_eq_false c2
        have c2b1 : decide (0 < x0_1.length) = false := decide_eq_false (by omega)
        clear c2
        replace H := Option.bind_eq_some_iff.mp H
        obtain ⟨t144, A400, H⟩ := H
        replace H : (if t144 = true then (some (x4_1, true)) else (some (([] : List (S38)), false))) = some (r1, r2) := H
        have A40 := Aside0.mk A400
        clear A400
        by_cases c41 : t144 = true
        · subst c41
          have H1 : (some (x4_1, true)) = some (r1, r2) := by rw [if_pos rfl] at H; exact H
          clear H
          have H := H1
          clear H1
          simp only [Option.some.injEq, Prod.mk.injEq] at H
          obtain ⟨rfl, rfl⟩ := H
          obtain ⟨Ao42, co42, eo42⟩ := Kd.V_slice HO_0.out
          subst eo42
          obtain ⟨Ao43, co43, eo43⟩ := Kd.S_slice HO_4.out
          subst eo43
          go_wp2_with (first | ((with_reducible refine gate_callee (f := 15) rfl ?_); refine goesL_ (some 60) rfl rfl Try.func15 (by kernel_rfl) rfl #[.slice Ao43 x4_1.length co43] rfl (by (try simp only [List.map_toArray, List.map_cons, List.map_nil]); first | done | rfl | (simp only [List.length_drop, List.length_take]; rfl)) ?_; (with_reducible refine (path_Good.calls _ _ x4_1 true _ ?side1 ?side2 A40.out).mono ?_); (case side1 => repeat (first | exact (Kd.S_reads' HO_4.out).2.2 | (with_reducible refine Kd.C_alloc ?_ _) | (with_reducible refine Kd.C_drewN ?_ _) | (with_reducible refine Kd.C_drew ?_))); (case side2 => exact (Kd.S_reads' HO_4.out).2.1); rintro e w44 ⟨rfl, hb⟩; refine ⟨_, rfl, ?_⟩; have n0_ := Aside0.mk (Kd.V_below (by (with_reducible repeat (first | apply Kd.V_alloc | apply Kd.V_drewN | apply Kd.V_drew)); exact HO_0.out) hb); have n1_ := Aside0.mk (Kd.S_below (by (with_reducible repeat (first | apply Kd.S_alloc | apply Kd.S_drewN | apply Kd.S_drew)); exact HO_4.out) hb); have n2_ := Aside0.mk (below_step (by repeat (first | (with_reducible first | exact HB.out | apply below_alloc | apply pw_below_drewN | apply below_drew1) | exact HB.out)) hb); clear HO_0; clear HO_4; clear HB; have HO_0 := n0_; have HO_4 := n1_; have HB := n2_; clear n0_ n1_ n2_; (try clear hb); (try clear hb2); (try clear hk); (try clear hi)))
          go_ret2
          exact ⟨_, by first | rfl | (simp [errW_none, errW_some] <;> rfl) | (simp [*, errW_none, errW_some] <;> rfl), by (with_reducible repeat (first | apply Kd.S_alloc | apply Kd.S_drewN | apply Kd.S_drew)); exact HO_4.out, by repeat (first | (with_reducible first | exact HB.out | apply below_alloc | apply pw_below_drewN | apply below_drew1) | exact HB.out)⟩
        · replace c41 := Bool.eq_false_iff.mpr c41
          subst c41
          have H1 : (some (([] : List (S38)), false)) = some (r1, r2) := by rw [if_neg (show ¬ (false = true) by decide)] at H; exact H
          clear H
          have H := H1
          clear H1
          simp only [Option.some.injEq, Prod.mk.injEq] at H
          obtain ⟨rfl, rfl⟩ := H
          obtain ⟨Ao45, co45, eo45⟩ := Kd.V_slice HO_0.out
          subst eo45
          obtain ⟨Ao46, co46, eo46⟩ := Kd.S_slice HO_4.out
          subst eo46
          go_wp2_with (first | ((with_reducible refine gate_callee (f := 15) rfl ?_); refine goesL_ (some 60) rfl rfl Try.func15 (by kernel_rfl) rfl #[.slice Ao46 x4_1.length co46] rfl (by (try simp only [List.map_toArray, List.map_cons, List.map_nil]); first | done | rfl | (simp only [List.length_drop, List.length_take]; rfl)) ?_; (with_reducible refine (path_Good.calls _ _ x4_1 false _ ?side1 ?side2 A40.out).mono ?_); (case side1 => repeat (first | exact (Kd.S_reads' HO_4.out).2.2 | (with_reducible refine Kd.C_alloc ?_ _) | (with_reducible refine Kd.C_drewN ?_ _) | (with_reducible refine Kd.C_drew ?_))); (case side2 => exact (Kd.S_reads' HO_4.out).2.1); rintro e w47 ⟨rfl, hb⟩; refine ⟨_, rfl, ?_⟩; have n0_ := Aside0.mk (Kd.V_below (by (with_reducible repeat (first | apply Kd.V_alloc | apply Kd.V_drewN | apply Kd.V_drew)); exact HO_0.out) hb); have n1_ := Aside0.mk (Kd.S_below (by (with_reducible repeat (first | apply Kd.S_alloc | apply Kd.S_drewN | apply Kd.S_drew)); exact HO_4.out) hb); have n2_ := Aside0.mk (below_step (by repeat (first | (with_reducible first | exact HB.out | apply below_alloc | apply pw_below_drewN | apply below_drew1) | exact HB.out)) hb); clear HO_0; clear HO_4; clear HB; have HO_0 := n0_; have HO_4 := n1_; have HB := n2_; clear n0_ n1_ n2_; (try clear hb); (try clear hb2); (try clear hk); (try clear hi)))
          go_ret2
          exact ⟨_, by first | rfl | (simp [errW_none, errW_some] <;> rfl) | (simp [*, errW_none, errW_some] <;> rfl), by first | exact Kd.S_nil _ _ _ _ _ | exact Kd.N_nil _ _ _ _ _ | exact Kd.V_nil _ _ _ _ _ | exact Kd.Q_nil _ _ _ _ _ | exact Kd.R_nil _ _ _ _ _, by repeat (first | (with_reducible first | exact HB.out | apply below_alloc | apply pw_below_drewN | apply below_drew1) | exact HB.out)⟩

end Go.Proofs.Ytpkckkmgnlhhcaa.PPathPrepends
