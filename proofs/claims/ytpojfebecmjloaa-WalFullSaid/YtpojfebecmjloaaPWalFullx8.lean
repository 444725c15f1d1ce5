-- Lean text by a program of this repo (wip/tools/printx.py), out of Lean's own print of the translation
import Derived.Test.YtpojfebecmjloaaHelp
import Derived.Test.YtpojfebecmjloaaMid
import Derived.Test.YtpojfebecmjloaaPWalFullx0
import Derived.Test.YtpojfebecmjloaaPWalFullx1
import Derived.Test.YtpojfebecmjloaaPWalFullx5
import Derived.Test.YtpojfebecmjloaaPWalFullx7
namespace Go.Proofs.Ytpojfebecmjloaa.PWalFull
open Go.RowKit Go.Proofs.YtpojfebecmjloaaW.PrintWords Go.Proofs.YtpojfebecmjloaaW.PrintLast Go.Proofs.YtpojfebecmjloaaW.PrintMore
attribute [local go_sem] max2_int min2_int max_two min_two max_three min_three max_four min_four   -- for this text's walks alone
set_option linter.unusedVariables false
set_option linter.unusedSimpArgs false

/-! ### interregnumref01_Crc: function 63 -/
mutual
def interregnumref01_Crc.l0 : Nat → List Int → Int → Int → Option (Int)
  | 0, _, _, _ => none
  | k + 1, x0, x3, x4 => if x4 < (x0.length : Int) then (if 0 ≤ x4 then (interregnumref01_Crc.l1 k x0 (Go.bits .xor .u32 x3 ((rd x0 x4) % 4294967296)) x4 0) else (none)) else (some (Go.bits .xor .u32 4294967295 x3))
def interregnumref01_Crc.l1 : Nat → List Int → Int → Int → Int → Option (Int)
  | 0, _, _, _, _ => none
  | k + 1, x0, x3, x4, x5 => if x5 < 8 then (if (Int.tmod x3 2) = 1 then (interregnumref01_Crc.l1 k x0 (Go.bits .xor .u32 ((Int.tdiv x3 2) % 4294967296) 2197175160) x4 (wrap64 (x5 + 1))) else (interregnumref01_Crc.l1 k x0 ((Int.tdiv x3 2) % 4294967296) x4 (wrap64 (x5 + 1)))) else (interregnumref01_Crc.l0 k x0 x3 (wrap64 (x4 + 1)))
end
def interregnumref01_Crc.f (k : Nat) (l0 : List Int) : Option (Int) := interregnumref01_Crc.l0 k l0 4294967295 0
theorem interregnumref01_Crc.mono_l : ∀ k, (∀ y0 y1 y2, LeO (interregnumref01_Crc.l0 k y0 y1 y2) (interregnumref01_Crc.l0 (k + 1) y0 y1 y2)) ∧ (∀ y0 y1 y2 y3, LeO (interregnumref01_Crc.l1 k y0 y1 y2 y3) (interregnumref01_Crc.l1 (k + 1) y0 y1 y2 y3))
  | 0 => ⟨fun _ _ _ r h => by simp [interregnumref01_Crc.l0] at h, fun _ _ _ _ r h => by simp [interregnumref01_Crc.l1] at h⟩
  | k + 1 => by
    obtain ⟨ih0, ih1⟩ := interregnumref01_Crc.mono_l k
    refine ⟨?_, ?_⟩
    · intro y0 y1 y2
      unfold interregnumref01_Crc.l0
      repeat' first
      | (with_reducible exact ih0 _ _ _)
      | (with_reducible exact ih1 _ _ _ _)
      | (with_reducible exact LeO.refl _)
      | (with_reducible exact LeO.none _)
      | (with_reducible refine LeO.ite ?_ ?_)
      | (with_reducible refine LeO.bind ?_ (fun _ => ?_))
      | exact ih0 _ _ _
      | exact ih1 _ _ _ _
      | exact LeO.none _
      | refine LeO.ite ?_ ?_
      | refine LeO.bind ?_ (fun _ => ?_)
    · intro y0 y1 y2 y3
      unfold interregnumref01_Crc.l1
      repeat' first
      | (with_reducible exact ih0 _ _ _)
      | (with_reducible exact ih1 _ _ _ _)
      | (with_reducible exact LeO.refl _)
      | (with_reducible exact LeO.none _)
      | (with_reducible refine LeO.ite ?_ ?_)
      | (with_reducible refine LeO.bind ?_ (fun _ => ?_))
      | exact ih0 _ _ _
      | exact ih1 _ _ _ _
      | exact LeO.none _
      | refine LeO.ite ?_ ?_
      | refine LeO.bind ?_ (fun _ => ?_)
theorem interregnumref01_Crc.mono : ∀ a0 k, LeO (interregnumref01_Crc.f k a0) (interregnumref01_Crc.f (k + 1) a0) := by
  intro a0 k
  obtain ⟨ih0, ih1⟩ := interregnumref01_Crc.mono_l k
  unfold interregnumref01_Crc.f
  repeat' first
      | (with_reducible exact ih0 _ _ _)
      | (with_reducible exact ih1 _ _ _ _)
      | (with_reducible exact LeO.refl _)
      | (with_reducible exact LeO.none _)
      | (with_reducible refine LeO.ite ?_ ?_)
      | (with_reducible refine LeO.bind ?_ (fun _ => ?_))
      | exact ih0 _ _ _
      | exact ih1 _ _ _ _
      | exact LeO.none _
      | refine LeO.ite ?_ ?_
      | refine LeO.bind ?_ (fun _ => ?_)
set_option maxHeartbeats 8000000 in
set_option maxRecDepth 100000 in
theorem interregnumref01_Crc.calls (k : Nat) (A0 : Option Addr) (c0 : Nat) (l0 : List Int) (r : Int) (w : World) (hr0 : Kd.C (Kd.int .u8) w A0 l0.length l0) (hc0 : l0.length ≤ c0) (h : interregnumref01_Crc.f k l0 = some r) :
    Calls Try.prog 63 #[.slice A0 l0.length c0] w fun e w' => e = .returned (.int .u32 r) ∧ Drawn0 w w' := by
  have HR0 := Aside0.mk hr0
  have HC0 := Aside0.mk hc0
  clear hr0 hc0
  have H : (interregnumref01_Crc.l0 k l0 4294967295 0) = some r := h
  clear h
  have H' := Aside0.mk H
  clear H
  go_enter Try.func63, Try.ntmps63
  go_wp2
  go_loopg [3, 4] k (fun kq v3 v4 w' => ∃ (x3_1 : Int) (x4_1 : Int), v3 = .int .u32 x3_1 ∧ v4 = .int .i64 x4_1 ∧ Aside0 (interregnumref01_Crc.l0 kq l0 x3_1 x4_1 = some r) ∧ Aside0 (kq ≤ k) ∧ Drawn0 w w')
  case atStart => exact ⟨(4294967295), (0), (by first | rfl | (simp; done) | (simp [*]; done)), (by first | rfl | (simp; done) | (simp [*]; done)), H', ⟨Nat.le_refl _⟩, by repeat (first | exact Drawn0.refl _ | apply Drawn0.step)⟩
  case round =>
    clear H'
    obtain ⟨x3_1, x4_1, rfl, rfl, HA, HK1, ⟨m1, rfl⟩⟩ := hrel
    cases gk with
    | zero => exact absurd HA.out (by simp [interregnumref01_Crc.l0])
    | succ k1 =>
      have H := HA.out
      clear HA
      simp only [interregnumref01_Crc.l0] at H
      by_cases c2 : x4_1 < (l0.length : Int)
      · rw [if_pos c2] at H
        have c2b0 : decide (x4_1 < (l0.length : Int)) = true := decide_eq_true c2
        clear c2
        by_cases c3 : 0 ≤ x4_1
        · rw [if_pos c3] at H
          have c3b0 : decide (0 ≤ x4_1) = true := decide_eq_true c3
          clear c3
          have H' := Aside0.mk H
          clear H
          have p182 : 0 ≤ (x4_1 : Int) := of_decide_eq_true (by first | (with_reducible assumption) | assumption)
          have q182 : x4_1 < (l0.length : Int) := of_decide_eq_true (by first | (with_reducible assumption) | assumption)
          obtain ⟨ad182, e182, hx182_0⟩ := Kd.at_int HR0.out x4_1 p182 q182
          cases e182
          replace p182 := eq_true p182
          replace q182 := eq_true q182
          go_wp2
          go_loopg [3, 5] k1 (fun kq v3 v5 w' => ∃ (x3_2 : Int) (x5_2 : Int), v3 = .int .u32 x3_2 ∧ v5 = .int .i64 x5_2 ∧ Aside0 (interregnumref01_Crc.l1 kq l0 x3_2 x4_1 x5_2 = some r) ∧ Aside0 (kq ≤ k1) ∧ Drawn0 w w')
          case atStart => exact ⟨(Go.bits .xor .u32 x3_1 ((rd l0 x4_1) % 4294967296)), (0), (by first | rfl | (simp; done) | (simp [*]; done)), (by first | rfl | (simp; done) | (simp [*]; done)), H', ⟨Nat.le_refl _⟩, by repeat (first | exact Drawn0.refl _ | apply Drawn0.step)⟩
          case round =>
            clear H'
            try clear p1
            try clear q1
            try clear hx1
            try clear c2
            try clear c2b0
            try clear p2
            try clear c3
            try clear c3b0
            try clear hx182_0
            try clear p182
            try clear q182
            obtain ⟨x3_2, x5_2, rfl, rfl, HA, HK2, ⟨m2, rfl⟩⟩ := hrel
            cases gk with
            | zero => exact absurd HA.out (by simp [interregnumref01_Crc.l1])
            | succ k2 =>
              have H := HA.out
              clear HA
              simp only [interregnumref01_Crc.l1] at H
              by_cases c4 : x5_2 < 8
              · rw [if_pos c4] at H
                have c4b0 : decide (x5_2 < 8) = true := decide_eq_true c4
                clear c4
                by_cases c5 : (Int.tmod x3_2 2) = 1
                · rw [if_pos c5] at H
                  have c5b0 : ((Int.tmod x3_2 2) == 1) = true := beq_iff_eq.mpr c5
                  have c5b1 : ((Int.tmod x3_2 2) != 1) = false := bne_eq_false_iff_eq.mpr c5
                  clear c5
                  have H' := Aside0.mk H
                  clear H
                  go_wp2
                  go_roundg k2
                  case measure => have := HK1.out; have := HK2.out; omega
                  case rel => exact ⟨(Go.bits .xor .u32 ((Int.tdiv x3_2 2) % 4294967296) 2197175160), (wrap64 (x5_2 + 1)), (by first | rfl | (simp; done) | (simp [*]; done)), (by first | rfl | (simp; done) | (simp [*]; done)), H', ⟨by have := HK1.out; have := HK2.out; omega⟩, by repeat (first | exact Drawn0.refl _ | apply Drawn0.step)⟩
                · rw [if_neg c5] at H
                  have c5b0 : ((Int.tmod x3_2 2) == 1) = false := beq_eq_false_iff_ne.mpr c5
                  have c5b1 : ((Int.tmod x3_2 2) != 1) = true := bne_iff_ne.mpr c5
                  have H' := Aside0.mk H
                  clear H
                  go_wp2
                  go_roundg k2
                  case measure => have := HK1.out; have := HK2.out; omega
                  case rel => exact ⟨((Int.tdiv x3_2 2) % 4294967296), (wrap64 (x5_2 + 1)), (by first | rfl | (simp; done) | (simp [*]; done)), (by first | rfl | (simp; done) | (simp [*]; done)), H', ⟨by have := HK1.out; have := HK2.out; omega⟩, by repeat (first | exact Drawn0.refl _ | apply Drawn0.step)⟩
              · rw [if_neg c4] at H
                have c4b0 : decide (x5_2 < 8) = false := decide_eq_false c4
                clear c4
                have H' := Aside0.mk H
                clear H
                go_wp2
                go_roundg k2
                case measure => have := HK1.out; have := HK2.out; omega
                case rel => exact ⟨(x3_2), (wrap64 (x4_1 + 1)), (by first | rfl | (simp; done) | (simp [*]; done)), (by first | rfl | (simp; done) | (simp [*]; done)), H', ⟨by have := HK1.out; have := HK2.out; omega⟩, by repeat (first | exact Drawn0.refl _ | apply Drawn0.step)⟩
        · rw [if_neg c3] at H
          exact absurd H (by simp)
      · rw [if_neg c2] at H
        have c2b0 : decide (x4_1 < (l0.length : Int)) = false := decide_eq_false c2
        clear c2
        obtain rfl := Option.some.inj H
        go_wp2
        go_ret
        exact ⟨by first | rfl | (simp; done) | (simp [*]; done), by repeat (first | exact Drawn0.refl _ | apply Drawn0.step)⟩

/-! ### interregnumref01_Sectors: function 40 -/
def interregnumref01_Sectors.l0 : Nat → List Int → List (List Int) → Int → Option ((List (List Int)))
  | 0, _, _, _ => none
  | k + 1, x1, x6, x7 => if x7 < (x1.length : Int) then (if (wrap64 (x7 + 64)) > (x1.length : Int) then (if 0 ≤ x7 then (if x7 ≤ (x1.length : Int) then (if (x1.length : Int) ≤ (x1.length : Int) then ((interregnumref01_Fill.f ((x1.take ((x1.length : Int) : Int).toNat).drop (x7 : Int).toNat)).bind fun t213 => (if x6.length < 5864062014805 then (interregnumref01_Sectors.l0 k x1 (x6 ++ [t213]) (wrap64 (x7 + 64))) else (none))) else (none)) else (none)) else (none)) else (if 0 ≤ x7 then (if x7 ≤ (wrap64 (x7 + 64)) then (if (wrap64 (x7 + 64)) ≤ (x1.length : Int) then ((interregnumref01_Fill.f ((x1.take ((wrap64 (x7 + 64)) : Int).toNat).drop (x7 : Int).toNat)).bind fun t220 => (if x6.length < 5864062014805 then (interregnumref01_Sectors.l0 k x1 (x6 ++ [t220]) (wrap64 (x7 + 64))) else (none))) else (none)) else (none)) else (none))) else (some x6)
def interregnumref01_Sectors.f (k : Nat) (a0 : Int) (l1 : List Int) : Option ((List (List Int))) := (interregnumref01_Four.f a0).bind fun t183 => ((interregnumref01_Four.f (l1.length : Int)).bind fun t186 => (if t183.length + t186.length < 140737488355328 then ((some (t183 ++ t186 : List Int)).bind fun y189 => ((interregnumref01_Crc.f k l1).bind fun t192 => ((interregnumref01_Four.f (wrap64 (t192))).bind fun t193 => (if y189.length + t193.length < 140737488355328 then ((some (y189 ++ t193 : List Int)).bind fun y196 => ((interregnumref01_Crc.f k y196).bind fun t199 => ((interregnumref01_Four.f (wrap64 (t199))).bind fun t200 => (if y196.length + t200.length < 140737488355328 then ((interregnumref01_Fill.f (y196 ++ t200)).bind fun t206 => (interregnumref01_Sectors.l0 k l1 (([t206] : List (List Int))) 0)) else (none))))) else (none))))) else (none)))
theorem interregnumref01_Sectors.mono_l : ∀ k, (∀ y0 y1 y2, LeO (interregnumref01_Sectors.l0 k y0 y1 y2) (interregnumref01_Sectors.l0 (k + 1) y0 y1 y2))
  | 0 => fun _ _ _ r h => by simp [interregnumref01_Sectors.l0] at h
  | k + 1 => by
    have ih0 := interregnumref01_Sectors.mono_l k
    · intro y0 y1 y2
      unfold interregnumref01_Sectors.l0
      repeat' first
      | (with_reducible exact ih0 _ _ _)
      | (with_reducible exact interregnumref01_Crc.mono _ _)
      | (with_reducible exact LeO.refl _)
      | (with_reducible exact LeO.none _)
      | (with_reducible refine LeO.ite ?_ ?_)
      | (with_reducible refine LeO.bind ?_ (fun _ => ?_))
      | exact ih0 _ _ _
      | exact interregnumref01_Crc.mono _ _
      | exact LeO.none _
      | refine LeO.ite ?_ ?_
      | refine LeO.bind ?_ (fun _ => ?_)
theorem interregnumref01_Sectors.mono : ∀ a0 a1 k, LeO (interregnumref01_Sectors.f k a0 a1) (interregnumref01_Sectors.f (k + 1) a0 a1) := by
  intro a0 a1 k
  have ih0 := interregnumref01_Sectors.mono_l k
  unfold interregnumref01_Sectors.f
  repeat' first
      | (with_reducible exact ih0 _ _ _)
      | (with_reducible exact interregnumref01_Crc.mono _ _)
      | (with_reducible exact LeO.refl _)
      | (with_reducible exact LeO.none _)
      | (with_reducible refine LeO.ite ?_ ?_)
      | (with_reducible refine LeO.bind ?_ (fun _ => ?_))
      | exact ih0 _ _ _
      | exact interregnumref01_Crc.mono _ _
      | exact LeO.none _
      | refine LeO.ite ?_ ?_
      | refine LeO.bind ?_ (fun _ => ?_)
set_option maxHeartbeats 8000000 in
set_option maxRecDepth 100000 in
theorem interregnumref01_Sectors.calls (k : Nat) (a0 : Int) (A1 : Option Addr) (c1 : Nat) (l1 : List Int) (r : List (List Int)) (w : World) (hr1 : Kd.C (Kd.int .u8) w A1 l1.length l1) (hc1 : l1.length ≤ c1) (h : interregnumref01_Sectors.f k a0 l1 = some r) :
    Calls Try.prog 40 #[.int .i64 a0, .slice A1 l1.length c1] w fun e w' => ∃ v0_ : Value, e = .returned (v0_) ∧ Kd.N (Kd.slice 5 (Kd.int .u8)) 22 w' w.heap.size (fun k_ => (w.heap.size ≤ k_)) v0_ r ∧ Below w.heap.size w w' := by
  have HR1 := Aside0.mk hr1
  have HC1 := Aside0.mk hc1
  clear hr1 hc1
  have HB := Aside0.mk (Below.refl w.heap.size w)
  have H : ((interregnumref01_Four.f a0).bind fun t183 => ((interregnumref01_Four.f (l1.length : Int)).bind fun t186 => (if t183.length + t186.length < 140737488355328 then ((some (t183 ++ t186 : List Int)).bind fun y189 => ((interregnumref01_Crc.f k l1).bind fun t192 => ((interregnumref01_Four.f (wrap64 (t192))).bind fun t193 => (if y189.length + t193.length < 140737488355328 then ((some (y189 ++ t193 : List Int)).bind fun y196 => ((interregnumref01_Crc.f k y196).bind fun t199 => ((interregnumref01_Four.f (wrap64 (t199))).bind fun t200 => (if y196.length + t200.length < 140737488355328 then ((interregnumref01_Fill.f (y196 ++ t200)).bind fun t206 => (interregnumref01_Sectors.l0 k l1 (([t206] : List (List Int))) 0)) else (none))))) else (none))))) else (none)))) = some r := h
  clear h
  replace H := Option.bind_eq_some_iff.mp H
  obtain ⟨t183, A30, H⟩ := H
  replace H : ((interregnumref01_Four.f (l1.length : Int)).bind fun t186 => (if t183.length + t186.length < 140737488355328 then ((some (t183 ++ t186 : List Int)).bind fun y189 => ((interregnumref01_Crc.f k l1).bind fun t192 => ((interregnumref01_Four.f (wrap64 (t192))).bind fun t193 => (if y189.length + t193.length < 140737488355328 then ((some (y189 ++ t193 : List Int)).bind fun y196 => ((interregnumref01_Crc.f k y196).bind fun t199 => ((interregnumref01_Four.f (wrap64 (t199))).bind fun t200 => (if y196.length + t200.length < 140737488355328 then ((interregnumref01_Fill.f (y196 ++ t200)).bind fun t206 => (interregnumref01_Sectors.l0 k l1 (([t206] : List (List Int))) 0)) else (none))))) else (none))))) else (none))) = some r := H
  have A3 := Aside0.mk A30
  clear A30
  replace H := Option.bind_eq_some_iff.mp H
  obtain ⟨t186, A40, H⟩ := H
  replace H : (if t183.length + t186.length < 140737488355328 then ((some (t183 ++ t186 : List Int)).bind fun y189 => ((interregnumref01_Crc.f k l1).bind fun t192 => ((interregnumref01_Four.f (wrap64 (t192))).bind fun t193 => (if y189.length + t193.length < 140737488355328 then ((some (y189 ++ t193 : List Int)).bind fun y196 => ((interregnumref01_Crc.f k y196).bind fun t199 => ((interregnumref01_Four.f (wrap64 (t199))).bind fun t200 => (if y196.length + t200.length < 140737488355328 then ((interregnumref01_Fill.f (y196 ++ t200)).bind fun t206 => (interregnumref01_Sectors.l0 k l1 (([t206] : List (List Int))) 0)) else (none))))) else (none))))) else (none)) = some r := H
  have A4 := Aside0.mk A40
  clear A40
  by_cases c5 : t183.length + t186.length < 140737488355328
  · rw [if_pos c5] at H
    have LMc5 := Aside0.mk c5
    clear c5
    obtain ⟨y189, hy189⟩ : ∃ y_ : List Int, y_ = (t183 ++ t186) := ⟨_, rfl⟩
    replace H : ((interregnumref01_Crc.f k l1).bind fun t192 => ((interregnumref01_Four.f (wrap64 (t192))).bind fun t193 => (if y189.length + t193.length < 140737488355328 then ((some (y189 ++ t193 : List Int)).bind fun y196 => ((interregnumref01_Crc.f k y196).bind fun t199 => ((interregnumref01_Four.f (wrap64 (t199))).bind fun t200 => (if y196.length + t200.length < 140737488355328 then ((interregnumref01_Fill.f (y196 ++ t200)).bind fun t206 => (interregnumref01_Sectors.l0 k l1 (([t206] : List (List Int))) 0)) else (none))))) else (none)))) = some r := by first | (rw [hy189]; with_reducible exact H) | (have H2_ := (Option.bind_some _ _).symm.trans H; rw [hy189]; with_reducible exact H2_) | (have H2_ := (Option.bind_some _ _).symm.trans H; with_reducible exact H2_) | with_reducible exact H | (rw [hy189]; exact H) | exact H
    have Ny189 := Aside0.mk hy189
    clear hy189
    replace H := Option.bind_eq_some_iff.mp H
    obtain ⟨t192, A60, H⟩ := H
    replace H : ((interregnumref01_Four.f (wrap64 (t192))).bind fun t193 => (if y189.length + t193.length < 140737488355328 then ((some (y189 ++ t193 : List Int)).bind fun y196 => ((interregnumref01_Crc.f k y196).bind fun t199 => ((interregnumref01_Four.f (wrap64 (t199))).bind fun t200 => (if y196.length + t200.length < 140737488355328 then ((interregnumref01_Fill.f (y196 ++ t200)).bind fun t206 => (interregnumref01_Sectors.l0 k l1 (([t206] : List (List Int))) 0)) else (none))))) else (none))) = some r := H
    have A6 := Aside0.mk A60
    clear A60
    replace H := Option.bind_eq_some_iff.mp H
    obtain ⟨t193, A70, H⟩ := H
    replace H : (if y189.length + t193.length < 140737488355328 then ((some (y189 ++ t193 : List Int)).bind fun y196 => ((interregnumref01_Crc.f k y196).bind fun t199 => ((interregnumref01_Four.f (wrap64 (t199))).bind fun t200 => (if y196.length + t200.length < 140737488355328 then ((interregnumref01_Fill.f (y196 ++ t200)).bind fun t206 => (interregnumref01_Sectors.l0 k l1 (([t206] : List (List Int))) 0)) else (none))))) else (none)) = some r := H
    have A7 := Aside0.mk A70
    clear A70
    by_cases c8 : y189.length + t193.length < 140737488355328
    · rw [if_pos c8] at H
      have LMc8 := Aside0.mk c8
      clear c8
      obtain ⟨y196, hy196⟩ : ∃ y_ : List Int, y_ = (y189 ++ t193) := ⟨_, rfl⟩
      replace H : ((interregnumref01_Crc.f k y196).bind fun t199 => ((interregnumref01_Four.f (wrap64 (t199))).bind fun t200 => (if y196.length + t200.length < 140737488355328 then ((interregnumref01_Fill.f (y196 ++ t200)).bind fun t206 => (interregnumref01_Sectors.l0 k l1 (([t206] : List (List Int))) 0)) else (none)))) = some r := by first | (rw [hy196]; with_reducible exact H) | (have H2_ := (Option.bind_some _ _).symm.trans H; rw [hy196]; with_reducible exact H2_) | (have H2_ := (Option.bind_some _ _).symm.trans H; with_reducible exact H2_) | with_reducible exact H | (rw [hy196]; exact H) | exact H
      have Ny196 := Aside0.mk hy196
      clear hy196
      replace H := Option.bind_eq_some_iff.mp H
      obtain ⟨t199, A90, H⟩ := H
      replace H : ((interregnumref01_Four.f (wrap64 (t199))).bind fun t200 => (if y196.length + t200.length < 140737488355328 then ((interregnumref01_Fill.f (y196 ++ t200)).bind fun t206 => (interregnumref01_Sectors.l0 k l1 (([t206] : List (List Int))) 0)) else (none))) = some r := H
      have A9 := Aside0.mk A90
      clear A90
      replace H := Option.bind_eq_some_iff.mp H
      obtain ⟨t200, A100, H⟩ := H
      replace H : (if y196.length + t200.length < 140737488355328 then ((interregnumref01_Fill.f (y196 ++ t200)).bind fun t206 => (interregnumref01_Sectors.l0 k l1 (([t206] : List (List Int))) 0)) else (none)) = some r := H
      have A10 := Aside0.mk A100
      clear A100
      by_cases c11 : y196.length + t200.length < 140737488355328
      · rw [if_pos c11] at H
        have LMc11 := Aside0.mk c11
        clear c11
        obtain ⟨y203, hy203⟩ : ∃ y_ : List Int, y_ = (y196 ++ t200) := ⟨_, rfl⟩
        replace H : ((interregnumref01_Fill.f y203).bind fun t206 => (interregnumref01_Sectors.l0 k l1 (([t206] : List (List Int))) 0)) = some r := by first | (rw [hy203]; with_reducible exact H) | (have H2_ := (Option.bind_some _ _).symm.trans H; rw [hy203]; with_reducible exact H2_) | (have H2_ := (Option.bind_some _ _).symm.trans H; with_reducible exact H2_) | with_reducible exact H | (rw [hy203]; exact H) | exact H
        have Ny203 := Aside0.mk hy203
        clear hy203
        replace H := Option.bind_eq_some_iff.mp H
        obtain ⟨t206, A120, H⟩ := H
        replace H : (interregnumref01_Sectors.l0 k l1 (([t206] : List (List Int))) 0) = some r := H
        have A12 := Aside0.mk A120
        clear A120
        obtain ⟨y209, hy209⟩ : ∃ y_ : List (List Int), y_ = (([t206] : List (List Int))) := ⟨_, rfl⟩
        replace H : (interregnumref01_Sectors.l0 k l1 y209 0) = some r := by first | (rw [hy209]; with_reducible exact H) | (have H2_ := (Option.bind_some _ _).symm.trans H; rw [hy209]; with_reducible exact H2_) | (have H2_ := (Option.bind_some _ _).symm.trans H; with_reducible exact H2_) | with_reducible exact H | (rw [hy209]; exact H) | exact H
        have Ny209 := Aside0.mk hy209
        clear hy209
        have H' := Aside0.mk H
        clear H
        go_enter Try.func40, Try.ntmps40
        go_wp2_with (first | ((with_reducible refine gate_callee (f := 62) rfl ?_); refine goesL_ (some 10) rfl rfl Try.func62 (by kernel_rfl) rfl #[.int .i64 a0] rfl (by (try simp only [List.map_toArray, List.map_cons, List.map_nil]); first | done | rfl | (simp only [List.length_drop, List.length_take]; rfl)) ?_; (with_reducible refine (interregnumref01_Four.calls a0 t183 _ A3.out).mono ?_); rintro e w13 ⟨v184, rfl, ho0, hb⟩; refine ⟨_, rfl, ?_⟩; have n0_ := Aside0.mk (Kd.R_lower (Kd.R_newM (M := fun k_ => (w.heap.size ≤ k_)) ho0 (below_size (by repeat (first | (with_reducible first | exact HB.out | apply below_alloc | apply pw_below_drewN | apply below_drew1) | exact HB.out))) (fun k_ h_ => h_)) (below_size (by repeat (first | (with_reducible first | exact HB.out | apply below_alloc | apply pw_below_drewN | apply below_drew1) | exact HB.out)))); have n1_ := Aside0.mk (below_step (by repeat (first | (with_reducible first | exact HB.out | apply below_alloc | apply pw_below_drewN | apply below_drew1) | exact HB.out)) hb); clear HB; have HO185 := n0_; have HB := n1_; clear n0_ n1_; (try clear hb); (try clear hb2); (try clear hk); (try clear hi); (try clear ho0)) | ((with_reducible refine gate_callee (f := 62) rfl ?_); refine goesL_ (some 13) rfl rfl Try.func62 (by kernel_rfl) rfl #[.int .i64 (l1.length : Int)] rfl (by (try simp only [List.map_toArray, List.map_cons, List.map_nil]); first | done | rfl | (simp only [List.length_drop, List.length_take]; rfl)) ?_; (with_reducible refine (interregnumref01_Four.calls (l1.length : Int) t186 _ A4.out).mono ?_); rintro e w14 ⟨v187, rfl, ho0, hb⟩; refine ⟨_, rfl, ?_⟩; have n0_ := Aside0.mk (Kd.R_elder' (by (with_reducible repeat (first | apply Kd.R_alloc | apply Kd.R_drewN | apply Kd.R_drew)); exact HO185.out) (Kd.R_base ho0) hb); have n1_ := Aside0.mk (Kd.R_lower (Kd.R_new' (Kd.R_newM (M := fun k_ => (w.heap.size ≤ k_)) ho0 (below_size (by repeat (first | (with_reducible first | exact HB.out | apply below_alloc | apply pw_below_drewN | apply below_drew1) | exact HB.out))) (fun k_ h_ => h_)) (Kd.R_lt (by (with_reducible repeat (first | apply Kd.R_alloc | apply Kd.R_drewN | apply Kd.R_drew)); exact HO185.out))) (below_size (by repeat (first | (with_reducible first | exact HB.out | apply below_alloc | apply pw_below_drewN | apply below_drew1) | exact HB.out)))); have n2_ := Aside0.mk (below_step (by repeat (first | (with_reducible first | exact HB.out | apply below_alloc | apply pw_below_drewN | apply below_drew1) | exact HB.out)) hb); clear HO185; clear HB; have HO185 := n0_; have HO188 := n1_; have HB := n2_; clear n0_ n1_ n2_; (try clear hb); (try clear hb2); (try clear hk); (try clear hi); (try clear ho0); obtain ⟨Ao16, co16, eo16⟩ := Kd.R_slice HO188.out; subst eo16) | ((with_reducible refine gate_builtin (b := .append) (xs := #[.tmp 10, .tmp 13]) rfl ?_); at_builtin; refine Kd.R_append_rows (Kd.int .u8) (w0 := w) w.heap.size rfl (.tmp 10) (.tmp 13) 22 5 (.int .u8 0) 1 rfl Try.underlying22 info5 rfl (by decide) (by omega) v184 t183 t186 _ _ _ (fun k_ => (w.heap.size ≤ k_) ∧ some k_ ≠ (.slice Ao16 t186.length co16 : Value).ownBlock) (fun _ => False) rfl rfl ?aO ?aR (fun _ _ h => h) (fun _ h => h.elim) ?aF ?aB ?aS ?aL ?_; (case aR => repeat (first | exact (Kd.R_reads' HO188.out).2.2 | (with_reducible refine Kd.C_alloc ?_ _) | (with_reducible refine Kd.C_drewN ?_ _) | (with_reducible refine Kd.C_drew ?_))); (case aB => exact (by repeat (first | (with_reducible first | exact HB.out | apply below_alloc | apply pw_below_drewN | apply below_drew1) | exact HB.out))); (case aF => exact (fun k_ hk => ⟨(Nat.le_trans (below_size (by repeat (first | (with_reducible first | exact HB.out | apply below_alloc | apply pw_below_drewN | apply below_drew1) | exact HB.out))) hk), Kd.fresh' (Kd.R_lt (by (with_reducible repeat (first | apply Kd.R_alloc | apply Kd.R_drewN | apply Kd.R_drew)); exact HO188.out)) k_ hk⟩)); (case aO => exact (by (with_reducible repeat (first | apply Kd.R_alloc | apply Kd.R_drewN | apply Kd.R_drew)); exact Kd.R_mono HO185.out (fun _ hk => ⟨hk.1.1, hk.2⟩))); (case aS => exact (below_size (by repeat (first | (with_reducible first | exact HB.out | apply below_alloc | apply pw_below_drewN | apply below_drew1) | exact HB.out)))); (case aL => have := LMc5.out; omega); intro v190 w15 ho hb hg hat; rw [← Ny189.out] at ho; have n0_ := Aside0.mk (Kd.R_after (ok := (fun k_ => (w.heap.size ≤ k_))) (by (with_reducible repeat (first | apply Kd.R_alloc | apply Kd.R_drewN | apply Kd.R_drew)); exact Kd.R_mono HO188.out (fun _ hk => ⟨hk.1.1, hk.2⟩)) hg hat); have n1_ := Aside0.mk (hb); have n2_ := Aside0.mk (ho); clear HO188; clear HB; clear HO185; have HO188 := n0_; have HB := n1_; have HO191 := n2_; clear n0_ n1_ n2_; clear ho hb hg hat) | ((with_reducible refine gate_callee (f := 63) rfl ?_); refine goesL_ (some 16) rfl rfl Try.func63 (by kernel_rfl) rfl #[.slice A1 l1.length c1] rfl (by (try simp only [List.map_toArray, List.map_cons, List.map_nil]); first | done | rfl | (simp only [List.length_drop, List.length_take]; rfl)) ?_; (with_reducible refine (interregnumref01_Crc.calls k _ _ l1 t192 _ ?side1 ?side2 A6.out).mono ?_); (case side1 => repeat (first | exact (Kd.C_below HR1.out HB.out) | (with_reducible refine Kd.C_alloc ?_ _) | (with_reducible refine Kd.C_drewN ?_ _) | (with_reducible refine Kd.C_drew ?_))); (case side2 => exact HC1.out); rintro e w' ⟨rfl, ⟨nd, rfl⟩⟩; refine ⟨_, rfl, ?_⟩) | ((with_reducible refine gate_callee (f := 62) rfl ?_); refine goesL_ (some 18) rfl rfl Try.func62 (by kernel_rfl) rfl #[.int .i64 (wrap64 (t192))] rfl (by (try simp only [List.map_toArray, List.map_cons, List.map_nil]); first | done | rfl | (simp only [List.length_drop, List.length_take]; rfl)) ?_; (with_reducible refine (interregnumref01_Four.calls (wrap64 (t192)) t193 _ A7.out).mono ?_); rintro e w17 ⟨v194, rfl, ho0, hb⟩; refine ⟨_, rfl, ?_⟩; have n0_ := Aside0.mk (Kd.R_elder' (by (with_reducible repeat (first | apply Kd.R_alloc | apply Kd.R_drewN | apply Kd.R_drew)); exact HO188.out) (Kd.R_base ho0) hb); have n1_ := Aside0.mk (Kd.R_elder' (by (with_reducible repeat (first | apply Kd.R_alloc | apply Kd.R_drewN | apply Kd.R_drew)); exact HO191.out) (Kd.R_base ho0) hb); have n2_ := Aside0.mk (Kd.R_lower (Kd.R_new' (Kd.R_new' (Kd.R_newM (M := fun k_ => (w.heap.size ≤ k_)) ho0 (below_size (by repeat (first | (with_reducible first | exact HB.out | apply below_alloc | apply pw_below_drewN | apply below_drew1) | exact HB.out))) (fun k_ h_ => h_)) (Kd.R_lt (by (with_reducible repeat (first | apply Kd.R_alloc | apply Kd.R_drewN | apply Kd.R_drew)); exact HO188.out))) (Kd.R_lt (by (with_reducible repeat (first | apply Kd.R_alloc | apply Kd.R_drewN | apply Kd.R_drew)); exact HO191.out))) (below_size (by repeat (first | (with_reducible first | exact HB.out | apply below_alloc | apply pw_below_drewN | apply below_drew1) | exact HB.out)))); have n3_ := Aside0.mk (below_step (by repeat (first | (with_reducible first | exact HB.out | apply below_alloc | apply pw_below_drewN | apply below_drew1) | exact HB.out)) hb); clear HO188; clear HO191; clear HB; have HO188 := n0_; have HO191 := n1_; have HO195 := n2_; have HB := n3_; clear n0_ n1_ n2_ n3_; (try clear hb); (try clear hb2); (try clear hk); (try clear hi); (try clear ho0); obtain ⟨Ao19, co19, eo19⟩ := Kd.R_slice HO195.out; subst eo19) | ((with_reducible refine gate_builtin (b := .append) (xs := #[.tmp 14, .tmp 18]) rfl ?_); at_builtin; refine Kd.R_append_rows (Kd.int .u8) (w0 := w) w.heap.size rfl (.tmp 14) (.tmp 18) 22 5 (.int .u8 0) 1 rfl Try.underlying22 info5 rfl (by decide) (by omega) v190 y189 t193 _ _ _ (fun k_ => (w.heap.size ≤ k_) ∧ some k_ ≠ (.slice Ao16 t186.length co16 : Value).ownBlock ∧ some k_ ≠ (.slice Ao19 t193.length co19 : Value).ownBlock) (fun _ => False) rfl rfl ?aO ?aR (fun _ _ h => h) (fun _ h => h.elim) ?aF ?aB ?aS ?aL ?_; (case aR => repeat (first | exact (Kd.R_reads' HO195.out).2.2 | (with_reducible refine Kd.C_alloc ?_ _) | (with_reducible refine Kd.C_drewN ?_ _) | (with_reducible refine Kd.C_drew ?_))); (case aB => exact (by repeat (first | (with_reducible first | exact HB.out | apply below_alloc | apply pw_below_drewN | apply below_drew1) | exact HB.out))); (case aF => exact (fun k_ hk => ⟨(Nat.le_trans (below_size (by repeat (first | (with_reducible first | exact HB.out | apply below_alloc | apply pw_below_drewN | apply below_drew1) | exact HB.out))) hk), Kd.fresh' (Kd.R_lt (by (with_reducible repeat (first | apply Kd.R_alloc | apply Kd.R_drewN | apply Kd.R_drew)); exact HO188.out)) k_ hk, Kd.fresh' (Kd.R_lt (by (with_reducible repeat (first | apply Kd.R_alloc | apply Kd.R_drewN | apply Kd.R_drew)); exact HO195.out)) k_ hk⟩)); (case aO => exact (by (with_reducible repeat (first | apply Kd.R_alloc | apply Kd.R_drewN | apply Kd.R_drew)); exact Kd.R_mono HO191.out (fun _ hk => ⟨hk.1.1, ⟨hk.1.2, hk.2⟩⟩))); (case aS => exact (below_size (by repeat (first | (with_reducible first | exact HB.out | apply below_alloc | apply pw_below_drewN | apply below_drew1) | exact HB.out)))); (case aL => have := LMc8.out; omega); intro v197 w18 ho hb hg hat; rw [← Ny196.out] at ho; have n0_ := Aside0.mk (Kd.R_after (ok := (fun k_ => (w.heap.size ≤ k_) ∧ some k_ ≠ (.slice Ao19 t193.length co19 : Value).ownBlock)) (by (with_reducible repeat (first | apply Kd.R_alloc | apply Kd.R_drewN | apply Kd.R_drew)); exact Kd.R_mono HO188.out (fun _ hk => ⟨⟨hk.1.1, hk.2⟩, hk.1.2⟩)) hg hat); have n1_ := Aside0.mk (Kd.R_after (ok := (fun k_ => (w.heap.size ≤ k_) ∧ some k_ ≠ (.slice Ao16 t186.length co16 : Value).ownBlock)) (by (with_reducible repeat (first | apply Kd.R_alloc | apply Kd.R_drewN | apply Kd.R_drew)); exact Kd.R_mono HO195.out (fun _ hk => ⟨⟨hk.1.1.1, hk.1.2⟩, hk.2⟩)) hg hat); have n2_ := Aside0.mk (hb); have n3_ := Aside0.mk (ho); clear HO188; clear HO195; clear HB; clear HO191; have HO188 := n0_; have HO195 := n1_; have HB := n2_; have HO198 := n3_; clear n0_ n1_ n2_ n3_; clear ho hb hg hat; obtain ⟨Ao20, co20, eo20⟩ := Kd.R_slice HO198.out; subst eo20) | ((with_reducible refine gate_callee (f := 63) rfl ?_); refine goesL_ (some 22) rfl rfl Try.func63 (by kernel_rfl) rfl #[.slice Ao20 y196.length co20] rfl (by (try simp only [List.map_toArray, List.map_cons, List.map_nil]); first | done | rfl | (simp only [List.length_drop, List.length_take]; rfl)) ?_; (with_reducible refine (interregnumref01_Crc.calls k _ _ y196 t199 _ ?side1 ?side2 A9.out).mono ?_); (case side1 => repeat (first | exact (Kd.R_reads' HO198.out).2.2 | (with_reducible refine Kd.C_alloc ?_ _) | (with_reducible refine Kd.C_drewN ?_ _) | (with_reducible refine Kd.C_drew ?_))); (case side2 => exact (Kd.R_reads' HO198.out).2.1); rintro e w' ⟨rfl, ⟨nd, rfl⟩⟩; refine ⟨_, rfl, ?_⟩) | ((with_reducible refine gate_callee (f := 62) rfl ?_); refine goesL_ (some 24) rfl rfl Try.func62 (by kernel_rfl) rfl #[.int .i64 (wrap64 (t199))] rfl (by (try simp only [List.map_toArray, List.map_cons, List.map_nil]); first | done | rfl | (simp only [List.length_drop, List.length_take]; rfl)) ?_; (with_reducible refine (interregnumref01_Four.calls (wrap64 (t199)) t200 _ A10.out).mono ?_); rintro e w21 ⟨v201, rfl, ho0, hb⟩; refine ⟨_, rfl, ?_⟩; have n0_ := Aside0.mk (Kd.R_elder' (by (with_reducible repeat (first | apply Kd.R_alloc | apply Kd.R_drewN | apply Kd.R_drew)); exact HO188.out) (Kd.R_base ho0) hb); have n1_ := Aside0.mk (Kd.R_elder' (by (with_reducible repeat (first | apply Kd.R_alloc | apply Kd.R_drewN | apply Kd.R_drew)); exact HO195.out) (Kd.R_base ho0) hb); have n2_ := Aside0.mk (Kd.R_elder' (by (with_reducible repeat (first | apply Kd.R_alloc | apply Kd.R_drewN | apply Kd.R_drew)); exact HO198.out) (Kd.R_base ho0) hb); have n3_ := Aside0.mk (Kd.R_lower (Kd.R_new' (Kd.R_new' (Kd.R_new' (Kd.R_newM (M := fun k_ => (w.heap.size ≤ k_)) ho0 (below_size (by repeat (first | (with_reducible first | exact HB.out | apply below_alloc | apply pw_below_drewN | apply below_drew1) | exact HB.out))) (fun k_ h_ => h_)) (Kd.R_lt (by (with_reducible repeat (first | apply Kd.R_alloc | apply Kd.R_drewN | apply Kd.R_drew)); exact HO188.out))) (Kd.R_lt (by (with_reducible repeat (first | apply Kd.R_alloc | apply Kd.R_drewN | apply Kd.R_drew)); exact HO195.out))) (Kd.R_lt (by (with_reducible repeat (first | apply Kd.R_alloc | apply Kd.R_drewN | apply Kd.R_drew)); exact HO198.out))) (below_size (by repeat (first | (with_reducible first | exact HB.out | apply below_alloc | apply pw_below_drewN | apply below_drew1) | exact HB.out)))); have n4_ := Aside0.mk (below_step (by repeat (first | (with_reducible first | exact HB.out | apply below_alloc | apply pw_below_drewN | apply below_drew1) | exact HB.out)) hb); clear HO188; clear HO195; clear HO198; clear HB; have HO188 := n0_; have HO195 := n1_; have HO198 := n2_; have HO202 := n3_; have HB := n4_; clear n0_ n1_ n2_ n3_ n4_; (try clear hb); (try clear hb2); (try clear hk); (try clear hi); (try clear ho0); obtain ⟨Ao23, co23, eo23⟩ := Kd.R_slice HO202.out; subst eo23) | ((with_reducible refine gate_builtin (b := .append) (xs := #[.tmp 20, .tmp 24]) rfl ?_); at_builtin; refine Kd.R_append_rows (Kd.int .u8) (w0 := w) w.heap.size rfl (.tmp 20) (.tmp 24) 22 5 (.int .u8 0) 1 rfl Try.underlying22 info5 rfl (by decide) (by omega) (.slice Ao20 y196.length co20) y196 t200 _ _ _ (fun k_ => (w.heap.size ≤ k_) ∧ some k_ ≠ (.slice Ao16 t186.length co16 : Value).ownBlock ∧ some k_ ≠ (.slice Ao19 t193.length co19 : Value).ownBlock ∧ some k_ ≠ (.slice Ao23 t200.length co23 : Value).ownBlock) (fun _ => False) rfl rfl ?aO ?aR (fun _ _ h => h) (fun _ h => h.elim) ?aF ?aB ?aS ?aL ?_; (case aR => repeat (first | exact (Kd.R_reads' HO202.out).2.2 | (with_reducible refine Kd.C_alloc ?_ _) | (with_reducible refine Kd.C_drewN ?_ _) | (with_reducible refine Kd.C_drew ?_))); (case aB => exact (by repeat (first | (with_reducible first | exact HB.out | apply below_alloc | apply pw_below_drewN | apply below_drew1) | exact HB.out))); (case aF => exact (fun k_ hk => ⟨(Nat.le_trans (below_size (by repeat (first | (with_reducible first | exact HB.out | apply below_alloc | apply pw_below_drewN | apply below_drew1) | exact HB.out))) hk), Kd.fresh' (Kd.R_lt (by (with_reducible repeat (first | apply Kd.R_alloc | apply Kd.R_drewN | apply Kd.R_drew)); exact HO188.out)) k_ hk, Kd.fresh' (Kd.R_lt (by (with_reducible repeat (first | apply Kd.R_alloc | apply Kd.R_drewN | apply Kd.R_drew)); exact HO195.out)) k_ hk, Kd.fresh' (Kd.R_lt (by (with_reducible repeat (first | apply Kd.R_alloc | apply Kd.R_drewN | apply Kd.R_drew)); exact HO202.out)) k_ hk⟩)); (case aO => exact (by (with_reducible repeat (first | apply Kd.R_alloc | apply Kd.R_drewN | apply Kd.R_drew)); exact Kd.R_mono HO198.out (fun _ hk => ⟨hk.1.1, ⟨hk.1.2.1, ⟨hk.1.2.2, hk.2⟩⟩⟩))); (case aS => exact (below_size (by repeat (first | (with_reducible first | exact HB.out | apply below_alloc | apply pw_below_drewN | apply below_drew1) | exact HB.out)))); (case aL => have := LMc11.out; omega); intro v204 w22 ho hb hg hat; rw [← Ny203.out] at ho; have n0_ := Aside0.mk (Kd.R_after (ok := (fun k_ => (w.heap.size ≤ k_) ∧ some k_ ≠ (.slice Ao19 t193.length co19 : Value).ownBlock ∧ some k_ ≠ (.slice Ao23 t200.length co23 : Value).ownBlock)) (by (with_reducible repeat (first | apply Kd.R_alloc | apply Kd.R_drewN | apply Kd.R_drew)); exact Kd.R_mono HO188.out (fun _ hk => ⟨⟨hk.1.1.1, ⟨hk.1.1.2, hk.2⟩⟩, hk.1.2⟩)) hg hat); have n1_ := Aside0.mk (Kd.R_after (ok := (fun k_ => (w.heap.size ≤ k_) ∧ some k_ ≠ (.slice Ao16 t186.length co16 : Value).ownBlock ∧ some k_ ≠ (.slice Ao23 t200.length co23 : Value).ownBlock)) (by (with_reducible repeat (first | apply Kd.R_alloc | apply Kd.R_drewN | apply Kd.R_drew)); exact Kd.R_mono HO195.out (fun _ hk => ⟨⟨hk.1.1.1, ⟨hk.1.1.2, hk.2⟩⟩, hk.1.2⟩)) hg hat); have n2_ := Aside0.mk (Kd.R_after (ok := (fun k_ => (w.heap.size ≤ k_) ∧ some k_ ≠ (.slice Ao16 t186.length co16 : Value).ownBlock ∧ some k_ ≠ (.slice Ao19 t193.length co19 : Value).ownBlock)) (by (with_reducible repeat (first | apply Kd.R_alloc | apply Kd.R_drewN | apply Kd.R_drew)); exact Kd.R_mono HO202.out (fun _ hk => ⟨⟨hk.1.1.1.1, ⟨hk.1.1.2, hk.1.2⟩⟩, hk.2⟩)) hg hat); have n3_ := Aside0.mk (hb); have n4_ := Aside0.mk (ho); clear HO188; clear HO195; clear HO202; clear HB; clear HO198; have HO188 := n0_; have HO195 := n1_; have HO202 := n2_; have HB := n3_; have HO205 := n4_; clear n0_ n1_ n2_ n3_ n4_; clear ho hb hg hat; obtain ⟨Ao24, co24, eo24⟩ := Kd.R_slice HO205.out; subst eo24) | ((with_reducible refine gate_callee (f := 18) rfl ?_); refine goesL_ (some 26) rfl rfl Try.func18 (by kernel_rfl) rfl #[.slice Ao24 y203.length co24] rfl (by (try simp only [List.map_toArray, List.map_cons, List.map_nil]); first | done | rfl | (simp only [List.length_drop, List.length_take]; rfl)) ?_; (with_reducible refine (interregnumref01_Fill.calls _ _ y203 t206 _ ?side1 ?side2 A12.out).mono ?_); (case side1 => repeat (first | exact (Kd.R_reads' HO205.out).2.2 | (with_reducible refine Kd.C_alloc ?_ _) | (with_reducible refine Kd.C_drewN ?_ _) | (with_reducible refine Kd.C_drew ?_))); (case side2 => exact (Kd.R_reads' HO205.out).2.1); rintro e w25 ⟨v207, rfl, ho0, hb⟩; refine ⟨_, rfl, ?_⟩; have n0_ := Aside0.mk (Kd.R_elder' (by (with_reducible repeat (first | apply Kd.R_alloc | apply Kd.R_drewN | apply Kd.R_drew)); exact HO188.out) (Kd.R_base ho0) hb); have n1_ := Aside0.mk (Kd.R_elder' (by (with_reducible repeat (first | apply Kd.R_alloc | apply Kd.R_drewN | apply Kd.R_drew)); exact HO195.out) (Kd.R_base ho0) hb); have n2_ := Aside0.mk (Kd.R_elder' (by (with_reducible repeat (first | apply Kd.R_alloc | apply Kd.R_drewN | apply Kd.R_drew)); exact HO202.out) (Kd.R_base ho0) hb); have n3_ := Aside0.mk (Kd.R_elder' (by (with_reducible repeat (first | apply Kd.R_alloc | apply Kd.R_drewN | apply Kd.R_drew)); exact HO205.out) (Kd.R_base ho0) hb); have n4_ := Aside0.mk (Kd.R_lower (Kd.R_new' (Kd.R_new' (Kd.R_new' (Kd.R_new' (Kd.R_newM (M := fun k_ => (w.heap.size ≤ k_)) ho0 (below_size (by repeat (first | (with_reducible first | exact HB.out | apply below_alloc | apply pw_below_drewN | apply below_drew1) | exact HB.out))) (fun k_ h_ => h_)) (Kd.R_lt (by (with_reducible repeat (first | apply Kd.R_alloc | apply Kd.R_drewN | apply Kd.R_drew)); exact HO188.out))) (Kd.R_lt (by (with_reducible repeat (first | apply Kd.R_alloc | apply Kd.R_drewN | apply Kd.R_drew)); exact HO195.out))) (Kd.R_lt (by (with_reducible repeat (first | apply Kd.R_alloc | apply Kd.R_drewN | apply Kd.R_drew)); exact HO202.out))) (Kd.R_lt (by (with_reducible repeat (first | apply Kd.R_alloc | apply Kd.R_drewN | apply Kd.R_drew)); exact HO205.out))) (below_size (by repeat (first | (with_reducible first | exact HB.out | apply below_alloc | apply pw_below_drewN | apply below_drew1) | exact HB.out)))); have n5_ := Aside0.mk (below_step (by repeat (first | (with_reducible first | exact HB.out | apply below_alloc | apply pw_below_drewN | apply below_drew1) | exact HB.out)) hb); clear HO188; clear HO195; clear HO202; clear HO205; clear HB; have HO188 := n0_; have HO195 := n1_; have HO202 := n2_; have HO205 := n3_; have HO208 := n4_; have HB := n5_; clear n0_ n1_ n2_ n3_ n4_ n5_; (try clear hb); (try clear hb2); (try clear hk); (try clear hi); (try clear ho0); obtain ⟨Ao26, co26, eo26⟩ := Kd.R_slice HO208.out; subst eo26) | ((with_reducible refine gate_dst (N := 27) rfl ?_); refine Kd.N_lit (Kd.slice 5 (Kd.int .u8)) _ 22 ?hg (N' := 27) ?hd (xs := ([t206] : List (List Int))) (inner := [.slice Ao26 t206.length co26]) (ok := (fun k_ => (w.heap.size ≤ k_) ∧ some k_ ≠ (.slice Ao16 t186.length co16 : Value).ownBlock ∧ some k_ ≠ (.slice Ao19 t193.length co19 : Value).ownBlock ∧ some k_ ≠ (.slice Ao23 t200.length co23 : Value).ownBlock ∧ some k_ ≠ (.slice Ao24 y203.length co24 : Value).ownBlock)) (okp := (fun k_ => (w.heap.size ≤ k_) ∧ some k_ ≠ (.slice Ao16 t186.length co16 : Value).ownBlock ∧ some k_ ≠ (.slice Ao19 t193.length co19 : Value).ownBlock ∧ some k_ ≠ (.slice Ao23 t200.length co23 : Value).ownBlock ∧ some k_ ≠ (.slice Ao24 y203.length co24 : Value).ownBlock)) ?hr ?hp (fun _ hk => hk) ((show ∀ k_, w25.heap.size ≤ k_ → (fun k_ => (w.heap.size ≤ k_) ∧ some k_ ≠ (.slice Ao16 t186.length co16 : Value).ownBlock ∧ some k_ ≠ (.slice Ao19 t193.length co19 : Value).ownBlock ∧ some k_ ≠ (.slice Ao23 t200.length co23 : Value).ownBlock ∧ some k_ ≠ (.slice Ao24 y203.length co24 : Value).ownBlock) k_ from fun k_ hk => ⟨(Nat.le_trans (below_size (by repeat (first | (with_reducible first | exact HB.out | apply below_alloc | apply pw_below_drewN | apply below_drew1) | exact HB.out))) hk), Kd.fresh' (Kd.R_lt (by (with_reducible repeat (first | apply Kd.R_alloc | apply Kd.R_drewN | apply Kd.R_drew)); exact HO188.out)) k_ hk, Kd.fresh' (Kd.R_lt (by (with_reducible repeat (first | apply Kd.R_alloc | apply Kd.R_drewN | apply Kd.R_drew)); exact HO195.out)) k_ hk, Kd.fresh' (Kd.R_lt (by (with_reducible repeat (first | apply Kd.R_alloc | apply Kd.R_drewN | apply Kd.R_drew)); exact HO202.out)) k_ hk, Kd.fresh' (Kd.R_lt (by (with_reducible repeat (first | apply Kd.R_alloc | apply Kd.R_drewN | apply Kd.R_drew)); exact HO205.out)) k_ hk⟩) _ (Nat.le_refl _)) (Below.refl _ _) (Nat.le_refl _) (by simp) ?_; (case hd => rfl); (case hg => rfl); (case hr => first | (go_simp; done) | (go_simp; rfl) | (go_simp; simp [IntKind.wrap_u8, IntKind.wrap_u32]; done)); (case hp => exact (Reps.one (show Kd.FK (Kd.slice 5 (Kd.int .u8)) _ _ t206 [.slice Ao26 t206.length co26] from (Kd.FK_slice_mk (Kd.R_reads' (Kd.R_mono (ok' := (fun k_ => (w.heap.size ≤ k_) ∧ some k_ ≠ (.slice Ao16 t186.length co16 : Value).ownBlock ∧ some k_ ≠ (.slice Ao19 t193.length co19 : Value).ownBlock ∧ some k_ ≠ (.slice Ao23 t200.length co23 : Value).ownBlock ∧ some k_ ≠ (.slice Ao24 y203.length co24 : Value).ownBlock)) (HO208.out) (fun k_ hk => ⟨hk.1.1.1.1.1, ⟨hk.1.1.1.2, ⟨hk.1.1.2, ⟨hk.1.2, hk.2⟩⟩⟩⟩))).2.1 (Kd.R_F (Kd.R_mono (ok' := (fun k_ => (w.heap.size ≤ k_) ∧ some k_ ≠ (.slice Ao16 t186.length co16 : Value).ownBlock ∧ some k_ ≠ (.slice Ao19 t193.length co19 : Value).ownBlock ∧ some k_ ≠ (.slice Ao23 t200.length co23 : Value).ownBlock ∧ some k_ ≠ (.slice Ao24 y203.length co24 : Value).ownBlock)) (HO208.out) (fun k_ hk => ⟨hk.1.1.1.1.1, ⟨hk.1.1.1.2, ⟨hk.1.1.2, ⟨hk.1.2, hk.2⟩⟩⟩⟩))))) (Reps.none _ _))); intro v210 w27 ho28 hb hg_ hnew_; clear hg_ hnew_; (first | rw [← Ny209.out] at ho28 | (simp only [Int.reduceToNat] at ho28; rw [← Ny209.out] at ho28)); have n0_ := Aside0.mk (Kd.R_below (by (with_reducible repeat (first | apply Kd.R_alloc | apply Kd.R_drewN | apply Kd.R_drew)); exact HO188.out) hb); have n1_ := Aside0.mk (Kd.R_below (by (with_reducible repeat (first | apply Kd.R_alloc | apply Kd.R_drewN | apply Kd.R_drew)); exact HO195.out) hb); have n2_ := Aside0.mk (Kd.R_below (by (with_reducible repeat (first | apply Kd.R_alloc | apply Kd.R_drewN | apply Kd.R_drew)); exact HO202.out) hb); have n3_ := Aside0.mk (Kd.R_below (by (with_reducible repeat (first | apply Kd.R_alloc | apply Kd.R_drewN | apply Kd.R_drew)); exact HO205.out) hb); have n4_ := Aside0.mk (Kd.N_lower ho28 (below_size (by repeat (first | (with_reducible first | exact HB.out | apply below_alloc | apply pw_below_drewN | apply below_drew1) | exact HB.out)))); have n5_ := Aside0.mk (below_step (by repeat (first | (with_reducible first | exact HB.out | apply below_alloc | apply pw_below_drewN | apply below_drew1) | exact HB.out)) hb); clear HO188; clear HO195; clear HO202; clear HO205; clear HB; clear HO208; have HO188 := n0_; have HO195 := n1_; have HO202 := n2_; have HO205 := n3_; have HO211 := n4_; have HB := n5_; clear n0_ n1_ n2_ n3_ n4_ n5_; clear hb ho28))
        go_loopg [6, 7] k (fun kq v6 v7 w' => ∃ (x6_1 : List (List Int)) (x7_1 : Int), v7 = .int .i64 x7_1 ∧ Aside0 (interregnumref01_Sectors.l0 kq l1 x6_1 x7_1 = some r) ∧ Aside0 (kq ≤ k) ∧ Aside0 (Kd.N (Kd.slice 5 (Kd.int .u8)) 22 w' w.heap.size (fun k_ => (w.heap.size ≤ k_)) v6 x6_1) ∧ Aside0 (Below w.heap.size w w'))
        case atStart => exact ⟨(y209), (0), (by first | rfl | (simp; done) | (simp [*]; done)), H', ⟨Nat.le_refl _⟩, ⟨by (with_reducible repeat (first | apply Kd.N_alloc | apply Kd.N_drewN | apply Kd.N_drew)); exact Kd.N_mono HO211.out (fun _ hk => hk.1)⟩, ⟨by repeat (first | (with_reducible first | exact HB.out | apply below_alloc | apply pw_below_drewN | apply below_drew1) | exact HB.out)⟩⟩
        case round =>
          clear H'
          try clear c1
          try clear p2
          try clear c4
          try clear c5
          try clear c6
          try clear p6
          try clear c8
          try clear c11
          try clear c18
          obtain ⟨x6_1, x7_1, rfl, HA, HK1, HO_6, HB⟩ := hrel
          cases gk with
          | zero => exact absurd HA.out (by simp [interregnumref01_Sectors.l0])
          | succ k1 =>
            have H := HA.out
            clear HA
            simp only [interregnumref01_Sectors.l0] at H
            by_cases c29 : x7_1 < (l1.length : Int)
            · rw [if_pos c29] at H
              have c29b0 : decide (x7_1 < (l1.length : Int)) = true := decide_eq_true c29
              clear c29
              by_cases c30 : (wrap64 (x7_1 + 64)) > (l1.length : Int)
              · rw [if_pos c30] at H
                have c30b0 : decide ((l1.length : Int) < (wrap64 (x7_1 + 64))) = true := decide_eq_true c30
                clear c30
                by_cases c31 : 0 ≤ x7_1
                · rw [if_pos c31] at H
                  have c31b0 := eq_true c31
                  have c31b1 : decide (0 ≤ x7_1) = true := decide_eq_true c31
                  clear c31
                  by_cases c32 : x7_1 ≤ (l1.length : Int)
                  · rw [if_pos c32] at H
                    have c32b0 := eq_true c32
                    have c32b1 : decide (x7_1 ≤ (l1.length : Int)) = true := decide_eq_true c32
                    clear c32
                    by_cases c33 : (l1.length : Int) ≤ (l1.length : Int)
                    · rw [if_pos c33] at H
                      have c33b0 := eq_true c33
                      have c33b1 : decide ((l1.length : Int) ≤ (l1.length : Int)) = true := decide_eq_true c33
                      clear c33
                      replace H := Option.bind_eq_some_iff.mp H
                      obtain ⟨t213, A340, H⟩ := H
                      replace H : (if x6_1.length < 5864062014805 then (interregnumref01_Sectors.l0 k1 l1 (x6_1 ++ [t213]) (wrap64 (x7_1 + 64))) else (none)) = some r := H
                      have A34 := Aside0.mk A340
                      clear A340
                      by_cases c35 : x6_1.length < 5864062014805
                      · rw [if_pos c35] at H
                        have LMc35 := Aside0.mk c35
                        clear c35
                        obtain ⟨y216, hy216⟩ : ∃ y_ : List (List Int), y_ = (x6_1 ++ [t213]) := ⟨_, rfl⟩
                        replace H : (interregnumref01_Sectors.l0 k1 l1 y216 (wrap64 (x7_1 + 64))) = some r := by first | (rw [hy216]; with_reducible exact H) | (have H2_ := (Option.bind_some _ _).symm.trans H; rw [hy216]; with_reducible exact H2_) | (have H2_ := (Option.bind_some _ _).symm.trans H; with_reducible exact H2_) | with_reducible exact H | (rw [hy216]; exact H) | exact H
                        have Ny216 := Aside0.mk hy216
                        clear hy216
                        have H' := Aside0.mk H
                        clear H
                        obtain ⟨i036, hi036, _, hsz36, _⟩ := info_parts info5
                        obtain ⟨A36, hcut36, hA36, hC36⟩ := print_mid_of (P := Try.prog) (Value.int .u8) 0 22 5 .i64 .i64 Try.underlying22 hi036 hsz36 A1 c1 l1 x7_1 (l1.length : Int) (of_decide_eq_true (by first | (with_reducible assumption) | assumption)) (by first | omega | exact of_decide_eq_true (by first | (with_reducible assumption) | assumption)) (of_decide_eq_true (by first | (with_reducible assumption) | assumption)) HC1.out
                        have HR212 := Aside0.mk (Kd.C_of_reads (h1 := fun _ => rfl) (hA36 _ (Kd.reads_of_C HR1.out)))
                        have HC212 := Aside0.mk hC36
                        clear hA36 hC36 hi036 hsz36
                        go_wp2_with (first | ((with_reducible refine gate_callee (f := 18) rfl ?_); refine goesL_ (some 47) rfl rfl Try.func18 (by kernel_rfl) rfl #[.slice A36 ((l1.take ((l1.length : Int) : Int).toNat).drop (x7_1 : Int).toNat).length (c1 - x7_1.toNat)] rfl (by (try simp only [List.map_toArray, List.map_cons, List.map_nil]); first | done | (rw [show ((l1.take ((l1.length : Int) : Int).toNat).drop (x7_1 : Int).toNat).length = ((l1.length : Int).toNat - x7_1.toNat) from (by rw [List.length_drop, List.length_take]; have h_ : ((l1.length : Int) : Int) ≤ (l1.length : Int) := of_decide_eq_true (by first | (with_reducible assumption) | assumption); omega)] <;> rfl) | rfl | (simp only [List.length_drop, List.length_take]; rfl)) ?_; (with_reducible refine (interregnumref01_Fill.calls _ _ ((l1.take ((l1.length : Int) : Int).toNat).drop (x7_1 : Int).toNat) t213 _ ?side1 ?side2 A34.out).mono ?_); (case side1 => repeat (first | exact (Kd.C_below HR212.out HB.out) | (with_reducible refine Kd.C_alloc ?_ _) | (with_reducible refine Kd.C_drewN ?_ _) | (with_reducible refine Kd.C_drew ?_))); (case side2 => exact HC212.out); rintro e w37 ⟨v214, rfl, ho0, hb⟩; refine ⟨_, rfl, ?_⟩; have n0_ := Aside0.mk (Kd.N_elder' (by (with_reducible repeat (first | apply Kd.N_alloc | apply Kd.N_drewN | apply Kd.N_drew)); exact HO_6.out) (Kd.R_base ho0) hb); have n1_ := Aside0.mk (Kd.R_lower (Kd.R_newM (M := fun k_ => (w.heap.size ≤ k_)) ho0 (below_size (by repeat (first | (with_reducible first | exact HB.out | apply below_alloc | apply pw_below_drewN | apply below_drew1) | exact HB.out))) (fun k_ h_ => h_)) (below_size (by repeat (first | (with_reducible first | exact HB.out | apply below_alloc | apply pw_below_drewN | apply below_drew1) | exact HB.out)))); have n2_ := Aside0.mk (below_step (by repeat (first | (with_reducible first | exact HB.out | apply below_alloc | apply pw_below_drewN | apply below_drew1) | exact HB.out)) hb); clear HO_6; clear HB; have HO_6 := n0_; have HO215 := n1_; have HB := n2_; clear n0_ n1_ n2_; (try clear hb); (try clear hb2); (try clear hk); (try clear hi); (try clear ho0); obtain ⟨Ao39, co39, eo39⟩ := Kd.R_slice HO215.out; subst eo39) | ((with_reducible refine gate_builtin (b := .append) (xs := #[.tmp 42, .tmp 48]) rfl ?_); at_builtin; refine Kd.N_append (Kd.slice 5 (Kd.int .u8)) (w0 := w) w.heap.size rfl (.tmp 42) (.tmp 48) 45 22 (.slice none 0 0) 24 rfl Try.underlying45 info22 rfl (by decide) (by omega) u6 x6_1 t213 [.slice Ao39 t213.length co39] (fun k_ => (w.heap.size ≤ k_)) (fun k_ => ((fun k_ => (w.heap.size ≤ k_))) k_ ∧ some k_ ≠ (u6 : Value).ownBlock) rfl rfl ?aP (fun _ hk => hk) ?aF ?aO ?aB ?aS ?aL ?_; (case aP => exact (Kd.FK_slice_mk (Kd.R_reads' (Kd.R_mono (ok' := (fun k_ => ((fun k_ => (w.heap.size ≤ k_))) k_ ∧ some k_ ≠ (u6 : Value).ownBlock)) (Kd.R_apart' (HO215.out) (Kd.N_typed HO_6.out) (by decide)) (fun k_ hk => ⟨hk.1.1, hk.2⟩))).2.1 (Kd.R_F (Kd.R_mono (ok' := (fun k_ => ((fun k_ => (w.heap.size ≤ k_))) k_ ∧ some k_ ≠ (u6 : Value).ownBlock)) (Kd.R_apart' (HO215.out) (Kd.N_typed HO_6.out) (by decide)) (fun k_ hk => ⟨hk.1.1, hk.2⟩))))); (case aB => exact (by repeat (first | (with_reducible first | exact HB.out | apply below_alloc | apply pw_below_drewN | apply below_drew1) | exact HB.out))); (case aF => exact (fun k_ hk => (Nat.le_trans (below_size (by repeat (first | (with_reducible first | exact HB.out | apply below_alloc | apply pw_below_drewN | apply below_drew1) | exact HB.out))) hk))); (case aO => exact (by (with_reducible repeat (first | apply Kd.N_alloc | apply Kd.N_drewN | apply Kd.N_drew)); exact Kd.N_mono HO_6.out (fun _ hk => hk.1))); (case aS => exact (below_size (by repeat (first | (with_reducible first | exact HB.out | apply below_alloc | apply pw_below_drewN | apply below_drew1) | exact HB.out)))); (case aL => have := LMc35.out; omega); intro v217 w38 ho hb hg hat; rw [← Ny216.out] at ho; have n0_ := Aside0.mk (hb); have n1_ := Aside0.mk (ho); clear HB; clear HO_6; clear HO215; have HB := n0_; have HO218 := n1_; clear n0_ n1_; clear ho hb hg hat))
                        go_roundg k1
                        case measure => have := HK1.out; omega
                        case rel => exact ⟨(y216), (wrap64 (x7_1 + 64)), (by first | rfl | (simp; done) | (simp [*]; done)), H', ⟨by have := HK1.out; omega⟩, ⟨by (with_reducible repeat (first | apply Kd.N_alloc | apply Kd.N_drewN | apply Kd.N_drew)); exact HO218.out⟩, ⟨by repeat (first | (with_reducible first | exact HB.out | apply below_alloc | apply pw_below_drewN | apply below_drew1) | exact HB.out)⟩⟩
                      · rw [if_neg c35] at H
                        exact absurd H (by simp)
                    · rw [if_neg c33] at H
                      exact absurd H (by simp)
                  · rw [if_neg c32] at H
                    exact absurd H (by simp)
                · rw [if_neg c31] at H
                  exact absurd H (by simp)
              · rw [if_neg c30] at H
                have c30b0 : decide ((l1.length : Int) < (wrap64 (x7_1 + 64))) = false := decide_eq_false c30
                clear c30
                by_cases c40 : 0 ≤ x7_1
                · rw [if_pos c40] at H
                  have c40b0 := eq_true c40
                  have c40b1 : decide (0 ≤ x7_1) = true := decide_eq_true c40
                  clear c40
                  by_cases c41 : x7_1 ≤ (wrap64 (x7_1 + 64))
                  · rw [if_pos c41] at H
                    have c41b0 := eq_true c41
                    have c41b1 : decide (x7_1 ≤ (wrap64 (x7_1 + 64))) = true := decide_eq_true c41
                    by_cases c42 : (wrap64 (x7_1 + 64)) ≤ (l1.length : Int)
                    · rw [if_pos c42] at H
                      have c42b0 := eq_true c42
                      have c42b1 : decide ((wrap64 (x7_1 + 64)) ≤ (l1.length : Int)) = true := decide_eq_true c42
                      replace H := Option.bind_eq_some_iff.mp H
                      obtain ⟨t220, A430, H⟩ := H
                      replace H : (if x6_1.length < 5864062014805 then (interregnumref01_Sectors.l0 k1 l1 (x6_1 ++ [t220]) (wrap64 (x7_1 + 64))) else (none)) = some r := H
                      have A43 := Aside0.mk A430
                      clear A430
                      by_cases c44 : x6_1.length < 5864062014805
                      · rw [if_pos c44] at H
                        have LMc44 := Aside0.mk c44
                        clear c44
                        obtain ⟨y223, hy223⟩ : ∃ y_ : List (List Int), y_ = (x6_1 ++ [t220]) := ⟨_, rfl⟩
                        replace H : (interregnumref01_Sectors.l0 k1 l1 y223 (wrap64 (x7_1 + 64))) = some r := by first | (rw [hy223]; with_reducible exact H) | (have H2_ := (Option.bind_some _ _).symm.trans H; rw [hy223]; with_reducible exact H2_) | (have H2_ := (Option.bind_some _ _).symm.trans H; with_reducible exact H2_) | with_reducible exact H | (rw [hy223]; exact H) | exact H
                        have Ny223 := Aside0.mk hy223
                        clear hy223
                        have H' := Aside0.mk H
                        clear H
                        obtain ⟨i045, hi045, _, hsz45, _⟩ := info_parts info5
                        obtain ⟨A45, hcut45, hA45, hC45⟩ := print_mid_of (P := Try.prog) (Value.int .u8) 0 22 5 .i64 .i64 Try.underlying22 hi045 hsz45 A1 c1 l1 x7_1 (wrap64 (x7_1 + 64)) (of_decide_eq_true (by first | (with_reducible assumption) | assumption)) (by first | omega | exact of_decide_eq_true (by first | (with_reducible assumption) | assumption)) (of_decide_eq_true (by first | (with_reducible assumption) | assumption)) HC1.out
                        have HR219 := Aside0.mk (Kd.C_of_reads (h1 := fun _ => rfl) (hA45 _ (Kd.reads_of_C HR1.out)))
                        have HC219 := Aside0.mk hC45
                        clear hA45 hC45 hi045 hsz45
                        go_wp2_with (first | ((with_reducible refine gate_callee (f := 18) rfl ?_); refine goesL_ (some 47) rfl rfl Try.func18 (by kernel_rfl) rfl #[.slice A45 ((l1.take ((wrap64 (x7_1 + 64)) : Int).toNat).drop (x7_1 : Int).toNat).length (c1 - x7_1.toNat)] rfl (by (try simp only [List.map_toArray, List.map_cons, List.map_nil]); first | done | (rw [show ((l1.take ((wrap64 (x7_1 + 64)) : Int).toNat).drop (x7_1 : Int).toNat).length = ((wrap64 (x7_1 + 64)).toNat - x7_1.toNat) from (by rw [List.length_drop, List.length_take]; have h_ : ((wrap64 (x7_1 + 64)) : Int) ≤ (l1.length : Int) := of_decide_eq_true (by first | (with_reducible assumption) | assumption); omega)] <;> rfl) | rfl | (simp only [List.length_drop, List.length_take]; rfl)) ?_; (with_reducible refine (interregnumref01_Fill.calls _ _ ((l1.take ((wrap64 (x7_1 + 64)) : Int).toNat).drop (x7_1 : Int).toNat) t220 _ ?side1 ?side2 A43.out).mono ?_); (case side1 => repeat (first | exact (Kd.C_below HR219.out HB.out) | (with_reducible refine Kd.C_alloc ?_ _) | (with_reducible refine Kd.C_drewN ?_ _) | (with_reducible refine Kd.C_drew ?_))); (case side2 => exact HC219.out); rintro e w46 ⟨v221, rfl, ho0, hb⟩; refine ⟨_, rfl, ?_⟩; have n0_ := Aside0.mk (Kd.N_elder' (by (with_reducible repeat (first | apply Kd.N_alloc | apply Kd.N_drewN | apply Kd.N_drew)); exact HO_6.out) (Kd.R_base ho0) hb); have n1_ := Aside0.mk (Kd.R_lower (Kd.R_newM (M := fun k_ => (w.heap.size ≤ k_)) ho0 (below_size (by repeat (first | (with_reducible first | exact HB.out | apply below_alloc | apply pw_below_drewN | apply below_drew1) | exact HB.out))) (fun k_ h_ => h_)) (below_size (by repeat (first | (with_reducible first | exact HB.out | apply below_alloc | apply pw_below_drewN | apply below_drew1) | exact HB.out)))); have n2_ := Aside0.mk (below_step (by repeat (first | (with_reducible first | exact HB.out | apply below_alloc | apply pw_below_drewN | apply below_drew1) | exact HB.out)) hb); clear HO_6; clear HB; have HO_6 := n0_; have HO222 := n1_; have HB := n2_; clear n0_ n1_ n2_; (try clear hb); (try clear hb2); (try clear hk); (try clear hi); (try clear ho0); obtain ⟨Ao48, co48, eo48⟩ := Kd.R_slice HO222.out; subst eo48) | ((with_reducible refine gate_builtin (b := .append) (xs := #[.tmp 42, .tmp 48]) rfl ?_); at_builtin; refine Kd.N_append (Kd.slice 5 (Kd.int .u8)) (w0 := w) w.heap.size rfl (.tmp 42) (.tmp 48) 45 22 (.slice none 0 0) 24 rfl Try.underlying45 info22 rfl (by decide) (by omega) u6 x6_1 t220 [.slice Ao48 t220.length co48] (fun k_ => (w.heap.size ≤ k_)) (fun k_ => ((fun k_ => (w.heap.size ≤ k_))) k_ ∧ some k_ ≠ (u6 : Value).ownBlock) rfl rfl ?aP (fun _ hk => hk) ?aF ?aO ?aB ?aS ?aL ?_; (case aP => exact (Kd.FK_slice_mk (Kd.R_reads' (Kd.R_mono (ok' := (fun k_ => ((fun k_ => (w.heap.size ≤ k_))) k_ ∧ some k_ ≠ (u6 : Value).ownBlock)) (Kd.R_apart' (HO222.out) (Kd.N_typed HO_6.out) (by decide)) (fun k_ hk => ⟨hk.1.1, hk.2⟩))).2.1 (Kd.R_F (Kd.R_mono (ok' := (fun k_ => ((fun k_ => (w.heap.size ≤ k_))) k_ ∧ some k_ ≠ (u6 : Value).ownBlock)) (Kd.R_apart' (HO222.out) (Kd.N_typed HO_6.out) (by decide)) (fun k_ hk => ⟨hk.1.1, hk.2⟩))))); (case aB => exact (by repeat (first | (with_reducible first | exact HB.out | apply below_alloc | apply pw_below_drewN | apply below_drew1) | exact HB.out))); (case aF => exact (fun k_ hk => (Nat.le_trans (below_size (by repeat (first | (with_reducible first | exact HB.out | apply below_alloc | apply pw_below_drewN | apply below_drew1) | exact HB.out))) hk))); (case aO => exact (by (with_reducible repeat (first | apply Kd.N_alloc | apply Kd.N_drewN | apply Kd.N_drew)); exact Kd.N_mono HO_6.out (fun _ hk => hk.1))); (case aS => exact (below_size (by repeat (first | (with_reducible first | exact HB.out | apply below_alloc | apply pw_below_drewN | apply below_drew1) | exact HB.out)))); (case aL => have := LMc44.out; omega); intro v224 w47 ho hb hg hat; rw [← Ny223.out] at ho; have n0_ := Aside0.mk (hb); have n1_ := Aside0.mk (ho); clear HB; clear HO_6; clear HO222; have HB := n0_; have HO225 := n1_; clear n0_ n1_; clear ho hb hg hat))
                        go_roundg k1
                        case measure => have := HK1.out; omega
                        case rel => exact ⟨(y223), (wrap64 (x7_1 + 64)), (by first | rfl | (simp; done) | (simp [*]; done)), H', ⟨by have := HK1.out; omega⟩, ⟨by (with_reducible repeat (first | apply Kd.N_alloc | apply Kd.N_drewN | apply Kd.N_drew)); exact HO225.out⟩, ⟨by repeat (first | (with_reducible first | exact HB.out | apply below_alloc | apply pw_below_drewN | apply below_drew1) | exact HB.out)⟩⟩
                      · rw [if_neg c44] at H
                        exact absurd H (by simp)
                    · rw [if_neg c42] at H
                      exact absurd H (by simp)
                  · rw [if_neg c41] at H
                    exact absurd H (by simp)
                · rw [if_neg c40] at H
                  exact absurd H (by simp)
            · rw [if_neg c29] at H
              have c29b0 : decide (x7_1 < (l1.length : Int)) = false := decide_eq_false c29
              clear c29
              obtain rfl := Option.some.inj H
              go_wp2
              go_ret
              exact ⟨_, by first | rfl | (simp [errW_none, errW_some] <;> rfl) | (simp [*, errW_none, errW_some] <;> rfl), by (with_reducible repeat (first | apply Kd.N_alloc | apply Kd.N_drewN | apply Kd.N_drew)); exact HO_6.out, by repeat (first | (with_reducible first | exact HB.out | apply below_alloc | apply pw_below_drewN | apply below_drew1) | exact HB.out)⟩
      · rw [if_neg c11] at H
        exact absurd H (by simp)
    · rw [if_neg c8] at H
      exact absurd H (by simp)
  · rw [if_neg c5] at H
    exact absurd H (by simp)

/-! ### interregnumlaw04_WalFull: function 9 -/
-- FN rounds=1 making=1
-- IMPORT Derived.Test.YtpojfebecmjloaaMid
-- IMPORT Derived.Test.YtpojfebecmjloaaHelp
def walFill (k : Nat) (b : List Int) : Nat → Int → Disk.DiskM → Option (Int × Disk.DiskM)
  | 0, at_, s => some (at_, s)
  | m + 1, at_, s => (logAppend.f k s 1 at_ false b).bind fun t => if t.1 = 0 ∧ t.2.2.1 = false then walFill k b m t.2.1 t.2.2.2 else none
def walFullF (k : Nat) (a0 a1 : Int) (kk half len most : Int) : Option Bool :=
  (logOpen.f k (Disk.new kk)).bind fun o => (interregnumref01_Sectors.f k 1 (List.replicate a1.toNat 0)).bind fun r => (walFill k (List.replicate a1.toNat 0) most.toNat o.2.2.1 o.2.2.2.2).bind fun t =>
    (logAppend.f k t.2 1 t.1 false (List.replicate a1.toNat 0)).bind fun u => (wal_bounds.f u.2.2.2 1).bind fun bd => (logCheck.f k u.2.2.2 1 u.2.1 false (List.replicate a1.toNat 0)).bind fun c => (wal_bounds.f c.2.2.2.2 c.2.1).bind fun bd2 =>
      if (0 ≤ a0 ∧ a0 < 256 ∧ 0 ≤ a1 ∧ a1 < 256) ∧ (kk = a0 % 60 + 8 ∧ half = (kk - 2) / 2 ∧ len = (r.length : Int) ∧ 0 < len ∧ len < 1000 ∧ most = half / len) ∧ (o.2.1 = 1 ∧ o.2.2.2.1 = 0) ∧ (u.1 = 3 ∧ u.2.2.1 = false ∧ wrap64 (u.2.1 - bd.1) = wrap64 (most * len)) ∧
        ((most = 0 ∧ c.1 = 3) ∨ (0 < most ∧ c.1 = 0 ∧ c.2.1 = 2 ∧ wrap64 (c.2.2.1 - bd2.1) = len)) then some true else none
def interregnumlaw04_WalFull.f (k : Nat) (a0 a1 : Int) : Option Bool := walFullF k a0 a1 (a0 % 60 + 8) ((a0 % 60 + 8 - 2) / 2) ((a1 + 63) / 64 + 1) ((a0 % 60 + 8 - 2) / 2 / ((a1 + 63) / 64 + 1))
theorem full_block {w : World} {k : IntKind} {b n : Nat} {t : TypeId} {fr : Nat × Nat} {xs : List Int} (hb : w.heap[b]? = some (.cells (xs.map (Value.int k)).toArray t fr)) (hn : xs.length = n) (hm : xs.length ≤ 9223372036854775807) :
    Kd.C (Kd.int k) w (some ⟨b, 0, none⟩) n xs := ans04_block hb hn hm
theorem full_make (w : World) (v : Int) (h0 : 0 ≤ v) (h1 : v < 256) (n : Nat) (hn : v.toNat = n) :
    (Instr.makeSlice 22 (.int .i64 v) (.int .i64 v)).run Try.prog w = .ok (.slice (some ⟨w.heap.size, 0, none⟩) n n) (w.alloc (.cells ((List.replicate n (0 : Int)).map (Value.int .u8)).toArray 5)) := by
  obtain ⟨i, hi, hz, hs, hb⟩ := info_parts (show (Try.prog.info? 5).map (fun i => (i.zero, i.size, i.bytes)) = some (some (.int .u8 0), 1, 1) by kernel_rfl)
  have hm := run_make (P := Try.prog) w 22 5 i (.int .u8 0) Try.underlying22 hi hz .i64 .i64 v v h0 (Int.le_refl _) (by rw [hb]; omega) (by omega)
  rw [hm, hs, hn, Nat.mul_one]
  exact congrArg (fun c => Result.ok (Value.slice (some ⟨w.heap.size, 0, none⟩) n n) (w.alloc (.cells c 5))) (fill_cells n)
set_option maxHeartbeats 8000000 in
set_option maxRecDepth 100000 in
open Go.Proofs.Ytpojfebecmjloaa.Opq in
theorem interregnumlaw04_WalFull.calls (k : Nat) (a0 a1 : Int) (r : Bool) (w : World) (h : interregnumlaw04_WalFull.f k a0 a1 = some r) :
    Calls Try.prog 9 #[.int .u8 a0, .int .u8 a1] w fun e w' => e = .returned (.bool r) ∧ Below w.heap.size w w' := by
  unfold interregnumlaw04_WalFull.f at h
  generalize (a0 % 60 + 8 - 2) / 2 / ((a1 + 63) / 64 + 1) = most at h
  generalize (a1 + 63) / 64 + 1 = len at h
  generalize (a0 % 60 + 8 - 2) / 2 = half at h
  generalize a0 % 60 + 8 = kk at h
  unfold walFullF at h
  obtain ⟨⟨x0, gen0, at0, err0, s0⟩, hopen, h⟩ := Option.bind_eq_some_iff.mp h
  obtain ⟨rr, hsec, h⟩ := Option.bind_eq_some_iff.mp h
  obtain ⟨⟨at9, s9⟩, hfill, h⟩ := Option.bind_eq_some_iff.mp h
  obtain ⟨⟨ue, uat, ud, us⟩, hu, h⟩ := Option.bind_eq_some_iff.mp h
  obtain ⟨⟨b1, b2, b3⟩, hbd, h⟩ := Option.bind_eq_some_iff.mp h
  obtain ⟨⟨ce, cgen, cat, cdn, cs⟩, hc, h⟩ := Option.bind_eq_some_iff.mp h
  obtain ⟨⟨d1, d2, d3⟩, hbd2, h⟩ := Option.bind_eq_some_iff.mp h
  dsimp only at hfill hu hbd hc hbd2 h
  split at h
  case isFalse => cases h
  case isTrue hall =>
  obtain rfl := Option.some.inj h
  clear h
  obtain ⟨⟨z0, z1, z2, z3⟩, ⟨hkk, hhalf, hlen, hl0, hl1, hmost⟩, ⟨rfl, rfl⟩, ⟨rfl, rfl, huse⟩, hfin⟩ := hall
  have tm : Int.tmod a0 60 = a0 % 60 := Int.tmod_eq_emod_of_nonneg z0
  have wr1 : IntKind.u8.wrap (a0 % 60) = a0 % 60 := by simp [IntKind.wrap, IntKind.bits, IntKind.signed]; omega
  have wr2 : IntKind.i64.wrap (a0 % 60) = a0 % 60 := by rw [i64_w]; unfold wrap64; omega
  have wr3 : IntKind.i64.wrap a1 = a1 := by rw [i64_w]; unfold wrap64; omega
  have kb : 8 ≤ kk ∧ kk ≤ 67 := by omega
  have hb : 3 ≤ half ∧ half ≤ 32 := by omega
  have mb : 0 ≤ most ∧ most ≤ 32 := by
    subst hmost
    exact ⟨Int.ediv_nonneg (by omega) (by omega), by have := Int.ediv_le_self (a := half) len (by omega); omega⟩
  obtain ⟨M, hM⟩ := Int.eq_ofNat_of_zero_le mb.1
  have E35 := Aside0.mk (show Int.tdiv (kk - 2) 2 = half by rw [Int.tdiv_eq_ediv_of_nonneg (by omega)]; exact hhalf.symm)
  have E40 := Aside0.mk (show Int.tdiv half (rr.length : Int) = most by rw [Int.tdiv_eq_ediv_of_nonneg (by omega), ← hlen]; exact hmost.symm)
  have KB := Aside0.mk kb
  have HBB := Aside0.mk hb
  have RL := Aside0.mk (show 0 < (rr.length : Int) ∧ (rr.length : Int) < 1000 by omega)
  have WR3 := Aside0.mk wr3
  have HMM := Aside0.mk hM
  have HMB := Aside0.mk mb
  have HLEN := Aside0.mk hlen
  have HOPEN := Aside0.mk hopen
  have HSEC := Aside0.mk hsec
  have HFILL := Aside0.mk hfill
  have HU := Aside0.mk hu
  have HBD := Aside0.mk hbd
  have HC := Aside0.mk hc
  have HBD2 := Aside0.mk hbd2
  have HUSE := Aside0.mk huse
  have HFIN := Aside0.mk hfin
  have HZ := Aside0.mk (And.intro z2 z3)
  have HA := Aside0.mk (show ∀ W, Calls Try.prog 35 #[] W fun e w' => e = .returned (.bool true) ∧ Below W.heap.size W w' from fun W => interregnumlaw04_answers.calls true W rfl)
  have HMK := Aside0.mk (fun W => full_make W a1 z2 z3 a1.toNat rfl)
  obtain ⟨bz, hbz⟩ : ∃ bz, bz = List.replicate a1.toNat (0 : Int) := ⟨_, rfl⟩
  have HBZ := Aside0.mk hbz
  have HBL := Aside0.mk (show bz.length = a1.toNat by rw [hbz, List.length_replicate])
  have HBM := Aside0.mk (show bz.length ≤ 9223372036854775807 by rw [hbz, List.length_replicate]; omega)
  rw [← hbz] at HFILL HU HC HMK HSEC
  have HKK := Aside0.mk hkk.symm
  clear hkk hhalf hlen hl0 hl1 hmost kb hb mb hM hopen hsec hfill hu hbd hc hbd2 huse hfin z0 z1 z2 z3 hbz wr3
  go_enter Try.func9, Try.ntmps9
  go_wp2_with fail
  rw [HKK.out]
  clear tm wr1 wr2
  refine (sector_New.calls kk (Disk.new kk) w w (Below.refl _ _) rfl).mono ?_
  rintro e w1 ⟨g, rfl, hi, hb, _⟩
  have HI := Aside0.mk hi
  have HB := Aside0.mk hb
  clear hi hb
  go_wp2_with fail
  refine (log_open k g (Disk.new kk) x0 1 at0 0 s0 w w1 HI.out HB.out HOPEN.out).mono ?_
  rintro e w2 ⟨lp, v0, rfl, ⟨L0, hR, hL⟩, hlog, hi, hb, _⟩
  rcases hlog with ⟨_, gl, rfl, hat, hge⟩ | ⟨h0, _⟩
  rotate_left
  · exact absurd rfl h0
  obtain ⟨A0, c0, rfl⟩ := Kd.R_slice hR
  have HGE := Aside0.mk (Nat.le_trans HB.out.size hge)
  have HI2 := Aside0.mk hi
  have HB2 := Aside0.mk hb
  have HL2 := Aside0.mk hat
  clear hi hb hat hR hL hge HI HB
  have hmk := HMK.out w2
  have wr3 := WR3.out
  go_upto_region 5 with fail
  clear hmk wr3
  obtain ⟨kb1, kb2⟩ := KB.out
  have e35 := E35.out
  go_upto_region 6 with fail
  have hgb := heap_alloc_new w2 (.cells (bz.map (Value.int .u8)).toArray 5 (0, 0))
  have hal : Below w2.heap.size w2 (w2.alloc (.cells (bz.map (Value.int .u8)).toArray 5 (0, 0))) := below_alloc (Below.refl _ _) _
  have HI3 := Aside0.mk (HI2.out.below hal)
  have HB3 := Aside0.mk (below_weaken HB2.out HB2.out.size hal)
  have HL3 := Aside0.mk (HL2.out.below hal)
  clear hal HI2 HB2 HL2
  generalize w2.alloc (.cells (bz.map (Value.int .u8)).toArray 5 (0, 0)) = w3 at hgb HI3 HB3 HL3 ⊢
  obtain ⟨gb, hgbe⟩ : ∃ gb, gb = w2.heap.size := ⟨_, rfl⟩
  rw [← hgbe] at hgb
  simp only [← hgbe]
  have HGB := Aside0.mk hgb
  have HSC := Aside0.mk (show ∀ W, W.heap[gb]? = some (.cells (bz.map (Value.int .u8)).toArray 5 (0, 0)) → Calls Try.prog 40 #[.int .i64 1, .slice (some ⟨gb, 0, none⟩) a1.toNat a1.toNat] W fun e w' => ∃ A c, e = .returned (.slice A rr.length c) ∧ Below W.heap.size W w' from fun W hW => by
    have := interregnumref01_Sectors.calls k 1 (some ⟨gb, 0, none⟩) a1.toNat bz rr W (full_block hW rfl HBM.out) (Nat.le_of_eq HBL.out) HSEC.out
    rw [HBL.out] at this
    refine this.mono ?_
    rintro e w' ⟨v0, rfl, hn, hb⟩
    obtain ⟨A, c, rfl⟩ := Kd.N_slice hn
    exact ⟨A, c, rfl, hb⟩)
  clear hgb hgbe HSEC
  obtain ⟨rl0, rl1⟩ := RL.out
  obtain ⟨hb0, hb1⟩ := HBB.out
  have e40 := E40.out
  go_upto_region 7 with (go_at_call 40; refine (HSC.out w3 HGB.out).mono ?_; rintro e w4 ⟨A4, c4, rfl, hb⟩; have HI4 := Aside0.mk (HI3.out.below hb); have HB4 := Aside0.mk (below_weaken HB3.out HB3.out.size hb); have HL4 := Aside0.mk (HL3.out.below hb); have HGB4 := Aside0.mk ((hb.block _ (blk_lt HGB.out)).trans HGB.out); clear hb HI3 HB3 HL3 HGB)
  rw [show wrap64 half = half by clear e40 e35; unfold wrap64; omega, e40, show wrap64 most = most by clear e40 e35; have := HMB.out; unfold wrap64; omega]
  clear e40 rl0 rl1 hb0 hb1 e35 kb1 kb2
  go_wp2_with fail
  go_loopg [13] M (fun kq v13 wr => ∃ (i at_ : Int) (s : Disk.DiskM), v13 = .int .i64 i ∧ Aside0 (i + kq = most ∧ 0 ≤ i) ∧ Aside0 (walFill k bz kq at_ s = some (at9, s9)) ∧ Aside0 (LogAt wr gl g 1 at_ false) ∧ Aside0 (IsS71 w wr g s) ∧ Aside0 (Below w.heap.size w wr) ∧ Aside0 (wr.heap[gb]? = some (.cells (bz.map (Value.int .u8)).toArray 5 (0, 0))))
  case atStart => exact ⟨0, at0, s0, rfl, ⟨by have := HMM.out; omega⟩, ⟨by have h := HFILL.out; rwa [HMM.out] at h⟩, HL4, HI4, HB4, HGB4⟩
  case round =>
    clear HL4 HI4 HB4 HGB4 HFILL
    obtain ⟨i, at_, s, rfl, HIK, HF, HL, HI, HB, HGB⟩ := hrel
    cases gk with
    | succ k1 =>
      have h := HF.out
      unfold walFill at h
      obtain ⟨⟨e5, at5, dn5, s5⟩, happ, h⟩ := Option.bind_eq_some_iff.mp h
      dsimp only at h
      split at h
      case isFalse => cases h
      case isTrue hok =>
      obtain ⟨rfl, rfl⟩ := hok
      have HF1 := Aside0.mk h
      have HAP := Aside0.mk happ
      clear happ h HF
      have dlt : decide (i < most) = true := decide_eq_true (by have := HIK.out; omega)
      have ei : wrap64 (i + 1) = i + 1 := by have := HIK.out; have := HMB.out; unfold wrap64; omega
      have hca := log_append k gl g 1 at_ false s (some ⟨gb, 0, none⟩) a1.toNat bz 0 at5 false s5 w wr HL.out HI.out HB.out HGE.out (fun W_ hk => full_block (hk.blk HGB.out (by decide)) rfl HBM.out) (Nat.le_of_eq HBL.out) HAP.out
      rw [HBL.out] at hca
      have HCA := Aside0.mk hca
      clear hca
      go_wp2_with (go_at_call 36; refine HCA.out.mono ?_; rintro e w5 ⟨rfl, hl5, hi5, hb5, hk5⟩; have HL5 := Aside0.mk hl5; have HI5 := Aside0.mk hi5; have HB5 := Aside0.mk hb5; have HGB5 := Aside0.mk (hk5.blk HGB.out (by decide)); clear hl5 hi5 hb5 hk5)
      go_roundg k1
      case measure => omega
      case rel => exact ⟨i + 1, at5, s5, by go_num, ⟨by have := HIK.out; omega⟩, HF1, HL5, HI5, HB5, HGB5⟩
    | zero =>
      have h := HF.out
      simp only [walFill, Option.some.injEq, Prod.mk.injEq] at h
      obtain ⟨rfl, rfl⟩ := h
      have dlt : decide (i < most) = false := decide_eq_false (by have := HIK.out; omega)
      clear HF
      go_upto_region 12 with fail
      clear dlt
      have hca := log_append k gl g 1 at_ false s (some ⟨gb, 0, none⟩) a1.toNat bz 3 uat false us w wr HL.out HI.out HB.out HGE.out (fun W_ hk => full_block (hk.blk HGB.out (by decide)) rfl HBM.out) (Nat.le_of_eq HBL.out) HU.out
      rw [HBL.out] at hca
      have HCA := Aside0.mk hca
      clear hca
      go_upto_region 13 with (go_at_call 36; refine HCA.out.mono ?_; rintro e w5 ⟨rfl, hl5, hi5, hb5, hk5⟩; have HL5 := Aside0.mk hl5; have HI5 := Aside0.mk hi5; have HB5 := Aside0.mk hb5; have HGB5 := Aside0.mk (hk5.blk HGB.out (by decide)); clear hl5 hi5 hb5 hk5 HL HI HB HGB HCA)
      go_upto_region 14 with (go_at_call 39; refine (log_used gl g 1 uat b1 b2 false us b3 w _ HL5.out HI5.out HBD.out).mono ?_; rintro e w6 ⟨rfl, nq, rfl⟩)
      have HI6 := Aside0.mk (HI5.out.drewN nq)
      have HB6 := Aside0.mk (pw_below_drewN HB5.out nq)
      have HL6 := Aside0.mk (show LogAt (w5.drewN nq) gl g 1 uat false from HL5.out)
      have HGB6 := Aside0.mk (show (w5.drewN nq).heap[gb]? = some (.cells (bz.map (Value.int .u8)).toArray 5 (0, 0)) from HGB5.out)
      have hca := log_checkpoint k gl g 1 uat false us (some ⟨gb, 0, none⟩) a1.toNat bz ce cgen cat cdn cs w _ HL6.out HI6.out HB6.out HGE.out (fun W_ hk => full_block (hk.blk HGB6.out (by decide)) rfl HBM.out) (Nat.le_of_eq HBL.out) HC.out
      rw [HBL.out] at hca
      have HCA := Aside0.mk hca
      clear hca HI5 HB5 HL5
      go_upto_region 15 with (go_at_call 37; refine HCA.out.mono ?_; rintro e w7 ⟨rfl, hl7, hi7, hb7, hk7⟩; have HL7 := Aside0.mk hl7; have HI7 := Aside0.mk hi7; have HB7 := Aside0.mk hb7; have HGB7 := Aside0.mk (hk7.blk HGB6.out (by decide)); clear hl7 hi7 hb7 hk7 HL6 HI6 HB6 HGB6 HGB5 HCA)
      rw [HUSE.out]
      have e74 : (wrap64 (most * len) == wrap64 (most * (rr.length : Int))) = true := by rw [HLEN.out]; exact beq_self_eq_true _
      rcases HFIN.out with ⟨hm0, hce⟩ | ⟨hm0, hce, hcg, hcu⟩
      · have dm : (most == 0) = true := beq_iff_eq.2 hm0
        have HM0 := Aside0.mk hm0
        subst hce
        clear hm0 HFIN
        go_wp2_with (first | (go_at_call 35; refine (HA.out _).mono ?_; rintro e w8 ⟨rfl, hb⟩; have HB8 := Aside0.mk (below_weaken HB7.out HB7.out.size hb); have HGB8 := Aside0.mk ((hb.block _ (blk_lt HGB7.out)).trans HGB7.out); clear hb) | (go_at_call 40; refine (HSC.out _ HGB8.out).mono ?_; rintro e w9 ⟨A9, c9, rfl, hb⟩; have HB9 := Aside0.mk (below_weaken HB8.out HB8.out.size hb); clear hb))
        go_ret
        exact ⟨rfl, HB9.out⟩
      · have dm : (most == 0) = false := beq_eq_false_iff_ne.2 (by omega)
        subst hce hcg
        have e96 : (wrap64 (cat - d1) == (rr.length : Int)) = true := beq_iff_eq.2 (hcu.trans HLEN.out)
        clear hm0 hcu HFIN
        go_wp2_with (first | (go_at_call 35; refine (HA.out _).mono ?_; rintro e w8 ⟨rfl, hb⟩; have HB8 := Aside0.mk (below_weaken HB7.out HB7.out.size hb); have HGB8 := Aside0.mk ((hb.block _ (blk_lt HGB7.out)).trans HGB7.out); have HL8 := Aside0.mk (HL7.out.below hb); have HI8 := Aside0.mk (HI7.out.below hb); clear hb) | (go_at_call 40; refine (HSC.out _ HGB8.out).mono ?_; rintro e w9 ⟨A9, c9, rfl, hb⟩; have HB9 := Aside0.mk (below_weaken HB8.out HB8.out.size hb); have HL9 := Aside0.mk (HL8.out.below hb); have HI9 := Aside0.mk (HI8.out.below hb); have HGB9 := Aside0.mk ((hb.block _ (blk_lt HGB8.out)).trans HGB8.out); clear hb HL8 HI8 HB8 HGB8; have HL8 := HL9; have HI8 := HI9; have HB8 := HB9; have HGB8 := HGB9; clear HL9 HI9 HB9 HGB9) | (go_at_call 38; refine (log_gen gl g 2 cat cdn _ HL8.out).mono ?_; rintro e w' ⟨rfl, rfl⟩) | (go_at_call 39; refine (log_used gl g 2 cat d1 d2 cdn cs d3 w _ HL8.out HI8.out HBD2.out).mono ?_; rintro e w6 ⟨rfl, nq2, rfl⟩; have HI9 := Aside0.mk (HI8.out.drewN nq2); have HB9 := Aside0.mk (pw_below_drewN HB8.out nq2); have HL9 := Aside0.mk (HL8.out.below (pw_below_drewN (Below.refl _ _) nq2)); have HGB9 := Aside0.mk (((pw_below_drewN (Below.refl _ _) nq2).block _ (blk_lt HGB8.out)).trans HGB8.out); clear HI8 HB8 HL8 HGB8; have HI8 := HI9; have HB8 := HB9; have HL8 := HL9; have HGB8 := HGB9; clear HI9 HB9 HL9 HGB9))
        go_ret
        exact ⟨rfl, HB8.out⟩


end Go.Proofs.Ytpojfebecmjloaa.PWalFull
