-- Lean text by a program of this repo (wip/tools/printx.py), out of Lean's own print of the translation
import Derived.Test.YtediicgkcgfghaaHelp
import Derived.Test.YtediicgkcgfghaaPDecideStepsx0
namespace Go.Proofs.Ytediicgkcgfghaa.PDecideSteps
open Go.RowKit Go.Proofs.YtediicgkcgfghaaW.PrintWords Go.Proofs.YtediicgkcgfghaaW.PrintLast Go.Proofs.YtediicgkcgfghaaW.PrintMore
attribute [local go_sem] max2_int min2_int max_two min_two max_three min_three max_four min_four   -- for this text's walks alone
set_option linter.unusedVariables false
set_option linter.unusedSimpArgs false

-- NOT PRINTED: function 53 (slices_IndexFunc_api_Segment_api_Segment)

-- NOT PRINTED: function 46 (slices_ContainsFunc_api_Segment_api_Segment)

/-! ### slices_Index_int_int: function 54 -/
def slices_Index_int_int.l0 : Nat → List Int → Int → Int → Int → Option (Int)
  | 0, _, _, _, _ => none
  | k + 1, x0, x1, x7, x8 => if x8 < x7 then (if 0 ≤ x8 then (if x8 < (x0.length : Int) then (if x1 = (rd x0 x8) then (some x8) else (slices_Index_int_int.l0 k x0 x1 x7 (wrap64 (x8 + 1)))) else (none)) else (none)) else (some (-1))
def slices_Index_int_int.f (k : Nat) (l0 : List Int) (a1 : Int) : Option (Int) := slices_Index_int_int.l0 k l0 a1 (l0.length : Int) 0
theorem slices_Index_int_int.mono_l : ∀ k, (∀ y0 y1 y2 y3, LeO (slices_Index_int_int.l0 k y0 y1 y2 y3) (slices_Index_int_int.l0 (k + 1) y0 y1 y2 y3))
  | 0 => fun _ _ _ _ r h => by simp [slices_Index_int_int.l0] at h
  | k + 1 => by
    have ih0 := slices_Index_int_int.mono_l k
    · intro y0 y1 y2 y3
      unfold slices_Index_int_int.l0
      repeat' first
      | (with_reducible exact ih0 _ _ _ _)
      | (with_reducible exact LeO.refl _)
      | (with_reducible exact LeO.none _)
      | (with_reducible refine LeO.ite ?_ ?_)
      | (with_reducible refine LeO.bind ?_ (fun _ => ?_))
      | exact ih0 _ _ _ _
      | exact LeO.none _
      | refine LeO.ite ?_ ?_
      | refine LeO.bind ?_ (fun _ => ?_)
theorem slices_Index_int_int.mono : ∀ a0 a1 k, LeO (slices_Index_int_int.f k a0 a1) (slices_Index_int_int.f (k + 1) a0 a1) := by
  intro a0 a1 k
  have ih0 := slices_Index_int_int.mono_l k
  unfold slices_Index_int_int.f
  repeat' first
      | (with_reducible exact ih0 _ _ _ _)
      | (with_reducible exact LeO.refl _)
      | (with_reducible exact LeO.none _)
      | (with_reducible refine LeO.ite ?_ ?_)
      | (with_reducible refine LeO.bind ?_ (fun _ => ?_))
      | exact ih0 _ _ _ _
      | exact LeO.none _
      | refine LeO.ite ?_ ?_
      | refine LeO.bind ?_ (fun _ => ?_)
set_option maxHeartbeats 8000000 in
set_option maxRecDepth 100000 in
theorem slices_Index_int_int.calls (k : Nat) (A0 : Option Addr) (c0 : Nat) (l0 : List Int) (a1 : Int) (r : Int) (w : World) (hr0 : Kd.C (Kd.int .i64) w A0 l0.length l0) (hc0 : l0.length ≤ c0) (h : slices_Index_int_int.f k l0 a1 = some r) :
    Calls Try.prog 54 #[.slice A0 l0.length c0, .int .i64 a1] w fun e w' => e = .returned (.int .i64 r) ∧ Drawn0 w w' := by
  have HR0 := Aside0.mk hr0
  have HC0 := Aside0.mk hc0
  clear hr0 hc0
  have H : (slices_Index_int_int.l0 k l0 a1 (l0.length : Int) 0) = some r := h
  clear h
  have H' := Aside0.mk H
  clear H
  go_enter Try.func54, Try.ntmps54
  go_wp2
  go_loopg [8] k (fun kq v8 w' => ∃ (x8_1 : Int), v8 = .int .i64 x8_1 ∧ Aside0 (slices_Index_int_int.l0 kq l0 a1 (l0.length : Int) x8_1 = some r) ∧ Aside0 (kq ≤ k) ∧ Drawn0 w w')
  case atStart => exact ⟨(0), (by first | rfl | (simp; done) | (simp [*]; done)), H', ⟨Nat.le_refl _⟩, by repeat (first | exact Drawn0.refl _ | apply Drawn0.step)⟩
  case round =>
    clear H'
    try clear p2
    obtain ⟨x8_1, rfl, HA, HK1, ⟨m1, rfl⟩⟩ := hrel
    cases gk with
    | zero => exact absurd HA.out (by simp [slices_Index_int_int.l0])
    | succ k1 =>
      have H := HA.out
      clear HA
      simp only [slices_Index_int_int.l0] at H
      by_cases c3 : x8_1 < (l0.length : Int)
      · rw [if_pos c3] at H
        have c3b0 : decide (x8_1 < (l0.length : Int)) = true := decide_eq_true c3
        clear c3
        by_cases c4 : 0 ≤ x8_1
        · rw [if_pos c4] at H
          have c4b0 : decide (0 ≤ x8_1) = true := decide_eq_true c4
          clear c4
          by_cases c5 : x8_1 < (l0.length : Int)
          · rw [if_pos c5] at H
            have c5b0 : decide (x8_1 < (l0.length : Int)) = true := decide_eq_true c5
            clear c5
            by_cases c6 : a1 = (rd l0 x8_1)
            · rw [if_pos c6] at H
              have c6b0 : (a1 == (rd l0 x8_1)) = true := beq_iff_eq.mpr c6
              have c6b1 : (a1 != (rd l0 x8_1)) = false := bne_eq_false_iff_eq.mpr c6
              clear c6
              obtain rfl := Option.some.inj H
              have p101 : 0 ≤ (x8_1 : Int) := of_decide_eq_true (by first | (with_reducible assumption) | assumption)
              have q101 : x8_1 < (l0.length : Int) := of_decide_eq_true (by first | (with_reducible assumption) | assumption)
              obtain ⟨ad101, e101, hx101_0⟩ := Kd.at_int HR0.out x8_1 p101 q101
              cases e101
              replace p101 := eq_true p101
              replace q101 := eq_true q101
              go_wp2
              go_ret
              exact ⟨by first | rfl | (simp; done) | (simp [*]; done), by repeat (first | exact Drawn0.refl _ | apply Drawn0.step)⟩
            · rw [if_neg c6] at H
              have c6b0 : (a1 == (rd l0 x8_1)) = false := beq_eq_false_iff_ne.mpr c6
              have c6b1 : (a1 != (rd l0 x8_1)) = true := bne_iff_ne.mpr c6
              have H' := Aside0.mk H
              clear H
              have p101 : 0 ≤ (x8_1 : Int) := of_decide_eq_true (by first | (with_reducible assumption) | assumption)
              have q101 : x8_1 < (l0.length : Int) := of_decide_eq_true (by first | (with_reducible assumption) | assumption)
              obtain ⟨ad101, e101, hx101_0⟩ := Kd.at_int HR0.out x8_1 p101 q101
              cases e101
              replace p101 := eq_true p101
              replace q101 := eq_true q101
              go_wp2
              go_roundg k1
              case measure => have := HK1.out; omega
              case rel => exact ⟨(wrap64 (x8_1 + 1)), (by first | rfl | (simp; done) | (simp [*]; done)), H', ⟨by have := HK1.out; omega⟩, by repeat (first | exact Drawn0.refl _ | apply Drawn0.step)⟩
          · rw [if_neg c5] at H
            exact absurd H (by simp)
        · rw [if_neg c4] at H
          exact absurd H (by simp)
      · rw [if_neg c3] at H
        have c3b0 : decide (x8_1 < (l0.length : Int)) = false := decide_eq_false c3
        clear c3
        obtain rfl := Option.some.inj H
        go_wp2
        go_ret
        exact ⟨by first | rfl | (simp; done) | (simp [*]; done), by repeat (first | exact Drawn0.refl _ | apply Drawn0.step)⟩

/-! ### slices_Contains_int_int: function 48 -/
def slices_Contains_int_int.f (k : Nat) (l0 : List Int) (a1 : Int) : Option (Bool) := (slices_Index_int_int.f k l0 a1).bind fun t102 => (some (decide (t102 ≥ 0)))
theorem slices_Contains_int_int.mono : ∀ a0 a1 k, LeO (slices_Contains_int_int.f k a0 a1) (slices_Contains_int_int.f (k + 1) a0 a1) := by
  intro a0 a1 k
  unfold slices_Contains_int_int.f
  repeat' first
      | (with_reducible exact slices_Index_int_int.mono _ _ _)
      | (with_reducible exact LeO.refl _)
      | (with_reducible exact LeO.none _)
      | (with_reducible refine LeO.ite ?_ ?_)
      | (with_reducible refine LeO.bind ?_ (fun _ => ?_))
      | exact slices_Index_int_int.mono _ _ _
      | exact LeO.none _
      | refine LeO.ite ?_ ?_
      | refine LeO.bind ?_ (fun _ => ?_)
set_option maxHeartbeats 8000000 in
set_option maxRecDepth 100000 in
theorem slices_Contains_int_int.calls (k : Nat) (A0 : Option Addr) (c0 : Nat) (l0 : List Int) (a1 : Int) (r : Bool) (w : World) (hr0 : Kd.C (Kd.int .i64) w A0 l0.length l0) (hc0 : l0.length ≤ c0) (h : slices_Contains_int_int.f k l0 a1 = some r) :
    Calls Try.prog 48 #[.slice A0 l0.length c0, .int .i64 a1] w fun e w' => e = .returned (.bool r) ∧ Drawn0 w w' := by
  have HR0 := Aside0.mk hr0
  have HC0 := Aside0.mk hc0
  clear hr0 hc0
  have H : ((slices_Index_int_int.f k l0 a1).bind fun t102 => (some (decide (t102 ≥ 0)))) = some r := h
  clear h
  replace H := Option.bind_eq_some_iff.mp H
  obtain ⟨t102, A30, H⟩ := H
  replace H : (some (decide (t102 ≥ 0))) = some r := H
  have A3 := Aside0.mk A30
  clear A30
  obtain rfl := Option.some.inj H
  go_enter Try.func48, Try.ntmps48
  go_wp2_with (first | ((with_reducible refine gate_callee (f := 54) rfl ?_); refine goesL_ (some 7) rfl rfl Try.func54 (by kernel_rfl) rfl #[.slice A0 l0.length c0, .int .i64 a1] rfl (by (try simp only [List.map_toArray, List.map_cons, List.map_nil]); first | done | rfl | (simp only [List.length_drop, List.length_take]; rfl)) ?_; (with_reducible refine (slices_Index_int_int.calls k _ _ l0 a1 t102 _ ?side1 ?side2 A3.out).mono ?_); (case side1 => repeat (first | exact HR0.out | (with_reducible refine Kd.C_alloc ?_ _) | (with_reducible refine Kd.C_drewN ?_ _) | (with_reducible refine Kd.C_drew ?_))); (case side2 => exact HC0.out); rintro e w' ⟨rfl, ⟨nd, rfl⟩⟩; refine ⟨_, rfl, ?_⟩))
  go_ret
  exact ⟨by first | rfl | (simp; done) | (simp [*]; done), by repeat (first | exact Drawn0.refl _ | apply Drawn0.step)⟩

-- NOT PRINTED: function 47 (path_Has_1)

/-! ### path_Has: function 32 -/
-- FN rounds=0 making=1
-- IMPORT Derived.Test.YtediicgkcgfghaaHelp
open Go.Proofs.Ytediicgkcgfghaa.Help
theorem index_l0 (l : List Int) (a : Int) (hl : l.length ≤ 9223372036854775807) (d : Nat) : ∀ (k i : Nat), i + d = l.length → (∀ y ∈ l.take i, (a == y) = false) →
    slices_Index_int_int.l0 (k + d + 1) l a (l.length : Int) (i : Int) = some (idxOf (a == ·) l) := by
  induction d with
  | zero =>
    intro k i hi hf
    conv => lhs; unfold slices_Index_int_int.l0
    rw [if_neg (by omega), idxOf_none _ l (by rwa [List.take_of_length_le (by omega)] at hf)]
  | succ d ih =>
    intro k i hi hf
    have hlt : i < l.length := by omega
    rw [show k + (d + 1) + 1 = (k + d + 1) + 1 by omega]
    conv => lhs; unfold slices_Index_int_int.l0
    have hr : rd l (i : Int) = l[i] := by
      unfold rd
      rw [List.getD_eq_getElem?_getD, Int.toNat_natCast, List.getElem?_eq_getElem hlt]; rfl
    rw [if_pos (by omega), if_pos (by omega), if_pos (by omega), hr]
    have hg : l.getD (i : Int).toNat 0 = l[i] := hr
    by_cases he : a = l[i]
    · rw [if_pos he, idxOf_at (a == ·) 0 l (i : Int) (by omega) (by omega) (by rwa [Int.toNat_natCast]) (by rw [hg]; simpa using he)]
    · rw [if_neg he, show wrap64 ((i : Int) + 1) = ((i + 1 : Nat) : Int) by unfold wrap64; omega]
      refine ih k (i + 1) (by omega) ?_
      have := take_next (a == ·) 0 l (i : Int) (by omega) (by omega) (by rwa [Int.toNat_natCast]) (by rw [hg]; simpa using he)
      rwa [show ((i : Int) + 1).toNat = i + 1 by omega] at this
def hasB (a : Int) (l : List Int) : Bool := l.any (a == ·)
theorem contains_eq (l : List Int) (a : Int) (hl : l.length ≤ 9223372036854775807) : slices_Contains_int_int.f (l.length + 1) l a = some (hasB a l) := by
  unfold slices_Contains_int_int.f slices_Index_int_int.f hasB
  have := index_l0 l a hl l.length 0 0 (by omega) (by simp)
  rw [show 0 + l.length + 1 = l.length + 1 by omega] at this
  rw [show ((0 : Nat) : Int) = 0 from rfl] at this
  rw [this, ← idxOf_any]
  rfl
def segHas (a : Int) (s : S47) : Bool := hasB a s.f1
set_option maxHeartbeats 2000000 in
set_option maxRecDepth 100000 in
theorem has_1 (b : Bool) (A1 : Option Addr) (c1 : Nat) (l1 : List Int) (a : Int) (g : Nat) (w : World) (hg : w.heap[g]? = some (.cells #[.int .i64 a] 3 (0, 0))) (hr1 : Kd.C (Kd.int .i64) w A1 l1.length l1) (hc1 : l1.length ≤ c1) :
    Calls Try.prog 47 #[.agg #[.bool b, .slice A1 l1.length c1], .pointer (some ⟨g, 0, none⟩)] w fun e w' => e = .returned (.bool (hasB a l1)) ∧ Below w.heap.size w w' := by
  have hu47 := Try.underlying47
  have hgs : g < w.heap.size := by
    rcases Nat.lt_or_ge g w.heap.size with h | h
    · exact h
    · rw [Array.getElem?_eq_none h] at hg; exact absurd hg (by simp)
  have hcell : w.cell? ⟨g, 0, none⟩ = some (.int .i64 a) := by simp [World.cell?, hg]
  have HA := Aside0.mk (show ∀ o, Calls Try.prog 48 #[.slice A1 l1.length c1, .int .i64 a] (w.alloc o) fun e w' => e = .returned (.bool (hasB a l1)) ∧ Drawn0 (w.alloc o) w' from
    fun o => slices_Contains_int_int.calls _ A1 c1 l1 a _ (w.alloc o) (Kd.C_alloc hr1 o) hc1 (contains_eq l1 a (Kd.C_max hr1)))
  have HC := Aside0.mk hc1
  clear hr1 hc1 hg
  generalize hasB a l1 = r at HA ⊢
  go_enter Try.func47, Try.ntmps47
  go_wp2_with fail
  refine (HA.out _).mono ?_
  rintro e w1 ⟨rfl, ⟨nd, rfl⟩⟩
  clear HA
  go_wp2
  go_ret
  exact ⟨rfl, pw_below_drewN (below_alloc (Below.refl _ _) _) _⟩
set_option maxHeartbeats 2000000 in
set_option maxRecDepth 100000 in
theorem indexHas (A0 : Option Addr) (c0 : Nat) (l0 : List S47) (a : Int) (g : Nat) (w : World) (hg : w.heap[g]? = some (.cells #[.int .i64 a] 3 (0, 0))) (hr0 : Kd.C k47 w A0 l0.length l0) (hc0 : l0.length ≤ c0) :
    Calls Try.prog 53 #[.slice A0 l0.length c0, .func (.func 47) #[] #[.pointer (some ⟨g, 0, none⟩)]] w fun e w' => e = .returned (.int .i64 (idxOf (segHas a) l0)) ∧ Below w.heap.size w w' := by
  have hu47 := Try.underlying47
  have hgs : g < w.heap.size := by
    rcases Nat.lt_or_ge g w.heap.size with h | h
    · exact h
    · rw [Array.getElem?_eq_none h] at hg; exact absurd hg (by simp)
  have HM := Aside0.mk (Kd.C_max hr0)
  have HR := Aside0.mk hr0
  have HC := Aside0.mk hc0
  have HG := Aside0.mk hg
  clear hr0 hc0 hg
  go_enter Try.func53, Try.ntmps53
  go_wp2
  go_loopg [8] (l0.length + 1) (fun kq v8 wr => ∃ x : Int, v8 = .int .i64 x ∧ Aside0 (0 ≤ x ∧ x + kq = l0.length + 1 ∧ (∀ y ∈ l0.take x.toNat, segHas a y = false)) ∧ Aside0 (Below w.heap.size w wr))
  case atStart => exact ⟨0, rfl, ⟨by simp⟩, ⟨Below.refl _ _⟩⟩
  case round =>
    obtain ⟨x, rfl, HF, HB⟩ := hrel
    by_cases hlt : x < (l0.length : Int)
    · have q1 := hlt
      have p1 := HF.out.1
      have c4b0 : decide (x < (l0.length : Int)) = true := decide_eq_true hlt
      have HL := Aside0.mk hlt
      clear hlt
      obtain ⟨ad, A1, c1, e, h0, h1, hc1, hr1⟩ := at_T47 (Kd.C_below HR.out HB.out) x p1 q1
      cases e
      have HX := has_1 (rd_T47 l0 x).f0 A1 c1 (rd_T47 l0 x).f1 a g wr (by rw [HB.out.block _ hgs]; exact HG.out) hr1 hc1
      have HQ : hasB a (rd_T47 l0 x).f1 = segHas a (rd_T47 l0 x) := rfl
      rw [HQ] at HX
      clear hr1 hc1 HQ
      replace p1 := eq_true p1
      replace q1 := eq_true q1
      rcases hqx : segHas a (rd_T47 l0 x) with _ | _
      · rw [hqx] at HX
        have HX := Aside0.mk HX
        have HQX := Aside0.mk hqx
        clear hqx
        cases gk with
        | zero => exact absurd HF.out.2.1 (by have := HL.out; omega)
        | succ k1 =>
          go_wp2_with fail
          refine HX.out.mono ?_
          rintro e w1 ⟨rfl, hb1⟩
          have HB1 := Aside0.mk (HB.out.trans (hb1.mono HB.out.size))
          clear HX hb1
          go_wp2
          go_roundg k1
          case measure => omega
          case rel =>
            refine ⟨x + 1, (by have hw : wrap64 (x + 1) = x + 1 := (by have := HM.out; have := HL.out; have := HF.out.1; unfold wrap64; omega); first | rfl | (simp [hw]; done)), ⟨by have := HF.out.1; omega, by have := HF.out.2.1; omega, take_next _ z47 _ _ HF.out.1 HL.out HF.out.2.2 HQX.out⟩, HB1⟩
      · rw [hqx] at HX
        have HX := Aside0.mk HX
        have HQX := Aside0.mk hqx
        clear hqx
        go_wp2_with fail
        refine HX.out.mono ?_
        rintro e w1 ⟨rfl, hb1⟩
        have HB1 := Aside0.mk (HB.out.trans (hb1.mono HB.out.size))
        clear HX hb1
        go_wp2
        go_ret
        exact ⟨by rw [idxOf_at (segHas a) z47 l0 x HF.out.1 HL.out HF.out.2.2 HQX.out]; rfl, HB1.out⟩
    · have c4b0 : decide (x < (l0.length : Int)) = false := decide_eq_false hlt
      have HL := Aside0.mk hlt
      clear hlt
      go_wp2
      go_ret
      exact ⟨by rw [idxOf_none (segHas a) l0 (by have := HF.out.2.2; rwa [List.take_of_length_le (by have := HL.out; omega)] at this)]; rfl, HB.out⟩
set_option maxHeartbeats 2000000 in
set_option maxRecDepth 100000 in
theorem containsHas (A0 : Option Addr) (c0 : Nat) (l0 : List S47) (a : Int) (g : Nat) (w : World) (hg : w.heap[g]? = some (.cells #[.int .i64 a] 3 (0, 0))) (hr0 : Kd.C k47 w A0 l0.length l0) (hc0 : l0.length ≤ c0) :
    Calls Try.prog 46 #[.slice A0 l0.length c0, .func (.func 47) #[] #[.pointer (some ⟨g, 0, none⟩)]] w fun e w' => e = .returned (.bool (l0.any (segHas a))) ∧ Below w.heap.size w w' := by
  have HI := Aside0.mk (indexHas A0 c0 l0 a g w hg hr0 hc0)
  have HE := Aside0.mk (idxOf_any (segHas a) l0)
  generalize idxOf (segHas a) l0 = ix at HI HE
  clear hg
  go_enter Try.func46, Try.ntmps46
  go_wp2_with fail
  refine HI.out.mono ?_
  rintro e w1 ⟨rfl, hb1⟩
  have HB := Aside0.mk hb1
  clear hb1 HI
  go_wp2
  go_ret
  exact ⟨by rw [← HE.out]; rfl, HB.out⟩
def path_Has.f (l0 : List S47) (a1 : Int) : Option Bool := some (l0.any (segHas a1))
set_option maxHeartbeats 2000000 in
set_option maxRecDepth 100000 in
theorem path_Has.calls (A0 : Option Addr) (c0 : Nat) (l0 : List S47) (a1 : Int) (r : Bool) (w : World) (hr0 : Kd.C k47 w A0 l0.length l0) (hc0 : l0.length ≤ c0) (h : path_Has.f l0 a1 = some r) :
    Calls Try.prog 32 #[.slice A0 l0.length c0, .int .i64 a1] w fun e w' => e = .returned (.bool r) ∧ Below w.heap.size w w' := by
  have HI := Aside0.mk (containsHas A0 c0 l0 a1 w.heap.size (w.alloc (.cells #[.int .i64 a1] 3)) (alloc_at _ _) (Kd.C_alloc hr0 _) hc0)
  obtain rfl := Option.some.inj h
  clear hr0 h
  generalize l0.any (segHas a1) = r at HI ⊢
  go_enter Try.func32, Try.ntmps32
  go_wp2_with fail
  refine HI.out.mono ?_
  rintro e w1 ⟨rfl, hb1⟩
  have HB := Aside0.mk ((below_alloc (Below.refl w.heap.size w) _).trans (hb1.mono (by rw [alloc_size]; omega)))
  clear hb1 HI
  go_wp2
  go_ret
  exact ⟨rfl, HB.out⟩


/-! ### route_Usable: function 15 -/
def route_Usable.f (a0_0 : Int) (a0_1 : Int) (a0_2 : Int) (a0_3 : Int) (l0_4 : List (S47)) (a0_5 : Int) (a0_6 : Int) (a0_7 : Int) (l0_8 : List Int) (l0_9 : List (S102)) (a0_10 : Int) (a1 : Int) : Option (Bool) := (path_Has.f l0_4 a1).bind fun t104 => (some (!t104))
set_option maxHeartbeats 8000000 in
set_option maxRecDepth 100000 in
theorem route_Usable.calls (a0_0 : Int) (a0_1 : Int) (a0_2 : Int) (a0_3 : Int) (A0_4 : Option Addr) (c0_4 : Nat) (l0_4 : List (S47)) (a0_5 : Int) (a0_6 : Int) (a0_7 : Int) (A0_8 : Option Addr) (c0_8 : Nat) (l0_8 : List Int) (A0_9 : Option Addr) (c0_9 : Nat) (l0_9 : List (S102)) (a0_10 : Int) (a1 : Int) (r : Bool) (w : World) (hr0_4 : Kd.C k47 w A0_4 l0_4.length l0_4) (hc0_4 : l0_4.length ≤ c0_4) (hr0_8 : Kd.C (Kd.int .u32) w A0_8 l0_8.length l0_8) (hc0_8 : l0_8.length ≤ c0_8) (hr0_9 : Kd.C k102 w A0_9 l0_9.length l0_9) (hc0_9 : l0_9.length ≤ c0_9) (h : route_Usable.f a0_0 a0_1 a0_2 a0_3 l0_4 a0_5 a0_6 a0_7 l0_8 l0_9 a0_10 a1 = some r) :
    Calls Try.prog 15 #[.agg #[.int .u32 a0_0, .int .i64 a0_1, .int .i64 a0_2, .int .i64 a0_3, .slice A0_4 l0_4.length c0_4, .int .u32 a0_5, .int .i64 a0_6, .int .i64 a0_7, .slice A0_8 l0_8.length c0_8, .slice A0_9 l0_9.length c0_9, .int .i64 a0_10], .int .i64 a1] w fun e w' => e = .returned (.bool r) ∧ Below w.heap.size w w' := by
  have hu41 := Try.underlying41
  have HR0_4 := Aside0.mk hr0_4
  have HC0_4 := Aside0.mk hc0_4
  clear hr0_4 hc0_4
  have HR0_8 := Aside0.mk hr0_8
  have HC0_8 := Aside0.mk hc0_8
  clear hr0_8 hc0_8
  have HR0_9 := Aside0.mk hr0_9
  have HC0_9 := Aside0.mk hc0_9
  clear hr0_9 hc0_9
  have HB := Aside0.mk (Below.refl w.heap.size w)
  have H : ((path_Has.f l0_4 a1).bind fun t104 => (some (!t104))) = some r := h
  clear h
  replace H := Option.bind_eq_some_iff.mp H
  obtain ⟨t104, A30, H⟩ := H
  replace H : (some (!t104)) = some r := H
  have A3 := Aside0.mk A30
  clear A30
  obtain rfl := Option.some.inj H
  go_enter Try.func15, Try.ntmps15
  go_wp2_with (first | ((with_reducible refine gate_dst (N := 2) rfl ?_); refine box_event ?hg (N := 2) ?hd (cs := #[.int .u32 a0_0, .int .i64 a0_1, .int .i64 a0_2, .int .i64 a0_3, .slice A0_4 l0_4.length c0_4, .int .u32 a0_5, .int .i64 a0_6, .int .i64 a0_7, .slice A0_8 l0_8.length c0_8, .slice A0_9 l0_9.length c0_9, .int .i64 a0_10]) (t := 41) ?hr ?_; (case hd => rfl); (case hg => rfl); (case hr => first | (go_simp; done) | (go_simp; rfl) | (go_simp; simp [IntKind.wrap_u8, IntKind.wrap_u32]; done)); intro gb103 hg w4 hbox hb; have n0_ := Aside0.mk (below_step (by repeat (first | (with_reducible first | exact HB.out | apply below_alloc | apply pw_below_drewN | apply below_drew1) | exact HB.out)) hb); have n1_ := Aside0.mk (hbox); have n2_ := Aside0.mk ((by rw [hg]; exact (below_size (by repeat (first | (with_reducible first | exact HB.out | apply below_alloc | apply pw_below_drewN | apply below_drew1) | exact HB.out))) : w.heap.size ≤ gb103)); have n3_ := Aside0.mk ((by rw [hg]; exact (below_size (by repeat (first | (with_reducible first | exact HB.out | apply below_alloc | apply pw_below_drewN | apply below_drew1) | exact HB.out))) : w.heap.size ≤ gb103)); clear HB; have HB := n0_; have BK103 := n1_; have GW103 := n2_; have GE103 := n3_; clear n0_ n1_ n2_ n3_; clear hb hbox hg; have hcz5_0 : w4.cell? ⟨gb103, 0, none⟩ = some (.int .u32 a0_0) := (blk_cell BK103.out 0).trans rfl; have hcz5_1 : w4.cell? ⟨gb103, 1, none⟩ = some (.int .i64 a0_1) := (blk_cell BK103.out 1).trans rfl; have hcz5_2 : w4.cell? ⟨gb103, 2, none⟩ = some (.int .i64 a0_2) := (blk_cell BK103.out 2).trans rfl; have hcz5_3 : w4.cell? ⟨gb103, 3, none⟩ = some (.int .i64 a0_3) := (blk_cell BK103.out 3).trans rfl; have hcz5_4 : w4.cell? ⟨gb103, 4, none⟩ = some (.slice A0_4 l0_4.length c0_4) := (blk_cell BK103.out 4).trans rfl; have hcz5_5 : w4.cell? ⟨gb103, 5, none⟩ = some (.int .u32 a0_5) := (blk_cell BK103.out 5).trans rfl; have hcz5_6 : w4.cell? ⟨gb103, 6, none⟩ = some (.int .i64 a0_6) := (blk_cell BK103.out 6).trans rfl; have hcz5_7 : w4.cell? ⟨gb103, 7, none⟩ = some (.int .i64 a0_7) := (blk_cell BK103.out 7).trans rfl; have hcz5_8 : w4.cell? ⟨gb103, 8, none⟩ = some (.slice A0_8 l0_8.length c0_8) := (blk_cell BK103.out 8).trans rfl; have hcz5_9 : w4.cell? ⟨gb103, 9, none⟩ = some (.slice A0_9 l0_9.length c0_9) := (blk_cell BK103.out 9).trans rfl; have hcz5_10 : w4.cell? ⟨gb103, 10, none⟩ = some (.int .i64 a0_10) := (blk_cell BK103.out 10).trans rfl; have hfz5_0 := blk_frozen BK103.out 0; have hfz5_1 := blk_frozen BK103.out 1; have hfz5_2 := blk_frozen BK103.out 2; have hfz5_3 := blk_frozen BK103.out 3; have hfz5_4 := blk_frozen BK103.out 4; have hfz5_5 := blk_frozen BK103.out 5; have hfz5_6 := blk_frozen BK103.out 6; have hfz5_7 := blk_frozen BK103.out 7; have hfz5_8 := blk_frozen BK103.out 8; have hfz5_9 := blk_frozen BK103.out 9; have hfz5_10 := blk_frozen BK103.out 10) | ((with_reducible refine gate_callee (f := 32) rfl ?_); refine goesL_ (some 9) rfl rfl Try.func32 (by kernel_rfl) rfl #[.slice A0_4 l0_4.length c0_4, .int .i64 a1] rfl (by (try simp only [List.map_toArray, List.map_cons, List.map_nil]); first | done | rfl | (simp only [List.length_drop, List.length_take]; rfl)) ?_; (with_reducible refine (path_Has.calls _ _ l0_4 a1 t104 _ ?side1 ?side2 A3.out).mono ?_); (case side1 => repeat (first | exact (Kd.C_below HR0_4.out HB.out) | (with_reducible refine Kd.C_alloc ?_ _) | (with_reducible refine Kd.C_drewN ?_ _) | (with_reducible refine Kd.C_drew ?_))); (case side2 => exact HC0_4.out); rintro e w6 ⟨rfl, hb⟩; refine ⟨_, rfl, ?_⟩; have n0_ := Aside0.mk (blk_below (g := gb103) (o := .cells #[.int .u32 a0_0, .int .i64 a0_1, .int .i64 a0_2, .int .i64 a0_3, .slice A0_4 l0_4.length c0_4, .int .u32 a0_5, .int .i64 a0_6, .int .i64 a0_7, .slice A0_8 l0_8.length c0_8, .slice A0_9 l0_9.length c0_9, .int .i64 a0_10] 41 (0, 0)) (by (with_reducible repeat (first | refine blk_drewN ?_ _ | refine blk_drew ?_ | refine blk_alloc ?_ _)); exact BK103.out) hb); have n1_ := Aside0.mk (below_step (by repeat (first | (with_reducible first | exact HB.out | apply below_alloc | apply pw_below_drewN | apply below_drew1 | refine below_set ?_ GE103.out) | exact HB.out)) hb); clear BK103; clear HB; have BK103 := n0_; have HB := n1_; clear n0_ n1_; (try clear hb); (try clear hb2); (try clear hk); (try clear hi)))
  go_ret
  exact ⟨by first | rfl | (simp [errW_none, errW_some] <;> rfl) | (simp [*, errW_none, errW_some] <;> rfl), by repeat (first | (with_reducible first | exact HB.out | apply below_alloc | apply pw_below_drewN | apply below_drew1 | refine below_set ?_ GE103.out) | exact HB.out)⟩

-- NOT PRINTED: function 16 (decide_chooser_keep)

-- NOT PRINTED: function 17 (decide_Best_1)

-- NOT PRINTED: function 18 (decide_Best_2)

-- NOT PRINTED: function 49 (math_Float64frombits)

-- NOT PRINTED: function 33 (math_Inf)

-- NOT PRINTED: function 50 (math_archMin)

-- NOT PRINTED: function 60 (math_Float64bits)

-- NOT PRINTED: function 59 (math_Abs)

-- NOT PRINTED: function 55 (math_IsInf)

-- NOT PRINTED: function 56 (math_IsNaN)

-- NOT PRINTED: function 57 (math_NaN)

-- NOT PRINTED: function 58 (math_Signbit)

-- NOT PRINTED: function 51 (math_min)

-- NOT PRINTED: function 34 (math_Min)

-- NOT PRINTED: function 35 (decide_chooser_least_1)

-- NOT PRINTED: function 19 (decide_chooser_least)

-- NOT PRINTED: function 23 (decide_chooser_attrs)

-- NOT PRINTED: function 20 (decide_chooser_pref)

/-! ### path_Length: function 22 -/
def path_Length.l0 : Nat → Int → List (S47) → Int → Int → Option (Int)
  | 0, _, _, _, _ => none
  | k + 1, x3, x6, x7, x8 => if x8 < x7 then (if 0 ≤ x8 then (if x8 < (x6.length : Int) then (if (rd_T47 x6 x8).f0 = true then (path_Length.l0 k (wrap64 (x3 + 1)) x6 x7 (wrap64 (x8 + 1))) else (path_Length.l0 k (wrap64 (x3 + (((rd_T47 x6 x8).f1).length : Int))) x6 x7 (wrap64 (x8 + 1)))) else (none)) else (none)) else (some x3)
def path_Length.f (k : Nat) (l0 : List (S47)) : Option (Int) := path_Length.l0 k 0 l0 (l0.length : Int) 0
theorem path_Length.mono_l : ∀ k, (∀ y0 y1 y2 y3, LeO (path_Length.l0 k y0 y1 y2 y3) (path_Length.l0 (k + 1) y0 y1 y2 y3))
  | 0 => fun _ _ _ _ r h => by simp [path_Length.l0] at h
  | k + 1 => by
    have ih0 := path_Length.mono_l k
    · intro y0 y1 y2 y3
      unfold path_Length.l0
      repeat' first
      | (with_reducible exact ih0 _ _ _ _)
      | (with_reducible exact LeO.refl _)
      | (with_reducible exact LeO.none _)
      | (with_reducible refine LeO.ite ?_ ?_)
      | (with_reducible refine LeO.bind ?_ (fun _ => ?_))
      | exact ih0 _ _ _ _
      | exact LeO.none _
      | refine LeO.ite ?_ ?_
      | refine LeO.bind ?_ (fun _ => ?_)
theorem path_Length.mono : ∀ a0 k, LeO (path_Length.f k a0) (path_Length.f (k + 1) a0) := by
  intro a0 k
  have ih0 := path_Length.mono_l k
  unfold path_Length.f
  repeat' first
      | (with_reducible exact ih0 _ _ _ _)
      | (with_reducible exact LeO.refl _)
      | (with_reducible exact LeO.none _)
      | (with_reducible refine LeO.ite ?_ ?_)
      | (with_reducible refine LeO.bind ?_ (fun _ => ?_))
      | exact ih0 _ _ _ _
      | exact LeO.none _
      | refine LeO.ite ?_ ?_
      | refine LeO.bind ?_ (fun _ => ?_)
set_option maxHeartbeats 8000000 in
set_option maxRecDepth 100000 in
theorem path_Length.calls (k : Nat) (A0 : Option Addr) (c0 : Nat) (l0 : List (S47)) (r : Int) (w : World) (hr0 : Kd.C k47 w A0 l0.length l0) (hc0 : l0.length ≤ c0) (h : path_Length.f k l0 = some r) :
    Calls Try.prog 22 #[.slice A0 l0.length c0] w fun e w' => e = .returned (.int .i64 r) ∧ Below w.heap.size w w' := by
  have hu47 := Try.underlying47
  have HR0 := Aside0.mk hr0
  have HC0 := Aside0.mk hc0
  clear hr0 hc0
  have HB := Aside0.mk (Below.refl w.heap.size w)
  have H : (path_Length.l0 k 0 l0 (l0.length : Int) 0) = some r := h
  clear h
  have H' := Aside0.mk H
  clear H
  go_enter Try.func22, Try.ntmps22
  go_wp2
  go_loopg [3, 8] k (fun kq v3 v8 w' => ∃ (x3_1 : Int) (x8_1 : Int), v3 = .int .i64 x3_1 ∧ v8 = .int .i64 x8_1 ∧ Aside0 (path_Length.l0 kq x3_1 l0 (l0.length : Int) x8_1 = some r) ∧ Aside0 (kq ≤ k) ∧ Aside0 (Below w.heap.size w w'))
  case atStart => exact ⟨(0), (0), (by first | rfl | (simp; done) | (simp [*]; done)), (by first | rfl | (simp; done) | (simp [*]; done)), H', ⟨Nat.le_refl _⟩, ⟨by repeat (first | (with_reducible first | exact HB.out | apply below_alloc | apply pw_below_drewN | apply below_drew1) | exact HB.out)⟩⟩
  case round =>
    clear H'
    obtain ⟨x3_1, x8_1, rfl, rfl, HA, HK1, HB⟩ := hrel
    cases gk with
    | zero => exact absurd HA.out (by simp [path_Length.l0])
    | succ k1 =>
      have H := HA.out
      clear HA
      simp only [path_Length.l0] at H
      by_cases c2 : x8_1 < (l0.length : Int)
      · rw [if_pos c2] at H
        have c2b0 : decide (x8_1 < (l0.length : Int)) = true := decide_eq_true c2
        clear c2
        by_cases c3 : 0 ≤ x8_1
        · rw [if_pos c3] at H
          have c3b0 : decide (0 ≤ x8_1) = true := decide_eq_true c3
          clear c3
          by_cases c4 : x8_1 < (l0.length : Int)
          · rw [if_pos c4] at H
            have c4b0 : decide (x8_1 < (l0.length : Int)) = true := decide_eq_true c4
            clear c4
            obtain ⟨bq5, hbq5⟩ : ∃ b_ : Bool, b_ = ((rd_T47 l0 x8_1).f0) := ⟨_, rfl⟩
            replace H : (if bq5 = true then (path_Length.l0 k1 (wrap64 (x3_1 + 1)) l0 (l0.length : Int) (wrap64 (x8_1 + 1))) else (path_Length.l0 k1 (wrap64 (x3_1 + (((rd_T47 l0 x8_1).f1).length : Int))) l0 (l0.length : Int) (wrap64 (x8_1 + 1)))) = some r := by rw [← hbq5] at H; exact H
            have Nbq5 := Aside0.mk hbq5
            clear hbq5
            by_cases c6 : bq5 = true
            · subst c6
              have H1 : (path_Length.l0 k1 (wrap64 (x3_1 + 1)) l0 (l0.length : Int) (wrap64 (x8_1 + 1))) = some r := by rw [if_pos rfl] at H; exact H
              clear H
              have H := H1
              clear H1
              have H' := Aside0.mk H
              clear H
              have p107 : 0 ≤ (x8_1 : Int) := of_decide_eq_true (by first | (with_reducible assumption) | assumption)
              have q107 : x8_1 < (l0.length : Int) := of_decide_eq_true (by first | (with_reducible assumption) | assumption)
              obtain ⟨ad107, A107_1, c107_1, e107, hx107_0, hx107_1, hl107_1, hi107_1⟩ := at_T47 HR0.out x8_1 p107 q107
              (try rw [← Nbq5.out] at hx107_0)
              cases e107
              replace hx107_0 := (HB.out.cell (World.block_lt_of_cell? w _ hx107_0)).trans hx107_0
              replace hx107_1 := (HB.out.cell (World.block_lt_of_cell? w _ hx107_1)).trans hx107_1
              have HR107_1 := Aside0.mk hi107_1
              have HC107_1 := Aside0.mk hl107_1
              clear hi107_1 hl107_1
              replace p107 := eq_true p107
              replace q107 := eq_true q107
              go_wp2_with (first | ((with_reducible refine gate_dst (N := 5) rfl ?_); refine box_event ?hg (N := 5) ?hd (cs := #[.bool false, .slice none 0 0]) (t := 47) ?hr ?_; (case hd => rfl); (case hg => rfl); (case hr => first | (go_simp; done) | (go_simp; rfl) | (go_simp; simp [IntKind.wrap_u8, IntKind.wrap_u32]; done)); intro gb108 hg w7 hbox hb; have n0_ := Aside0.mk (below_step (by repeat (first | (with_reducible first | exact HB.out | apply below_alloc | apply pw_below_drewN | apply below_drew1) | exact HB.out)) hb); have n1_ := Aside0.mk (hbox); have n2_ := Aside0.mk ((by rw [hg]; exact (below_size (by repeat (first | (with_reducible first | exact HB.out | apply below_alloc | apply pw_below_drewN | apply below_drew1) | exact HB.out))) : w.heap.size ≤ gb108)); have n3_ := Aside0.mk ((by rw [hg]; exact (below_size (by repeat (first | (with_reducible first | exact HB.out | apply below_alloc | apply pw_below_drewN | apply below_drew1) | exact HB.out))) : w.heap.size ≤ gb108)); clear HB; have HB := n0_; have BK108 := n1_; have GW108 := n2_; have GE108 := n3_; clear n0_ n1_ n2_ n3_; clear hb hbox hg; have hcz8_0 : w7.cell? ⟨gb108, 0, none⟩ = some (.bool false) := (blk_cell BK108.out 0).trans rfl; have hcz8_1 : w7.cell? ⟨gb108, 1, none⟩ = some (.slice none 0 0) := (blk_cell BK108.out 1).trans rfl; have hfz8_0 := blk_frozen BK108.out 0; have hfz8_1 := blk_frozen BK108.out 1))
              go_roundg k1
              case measure => have := HK1.out; omega
              case rel => first | exact ⟨(wrap64 (x3_1 + 1)), (wrap64 (x8_1 + 1)), (by first | rfl | (simp; done) | (simp [*]; done)), (by first | rfl | (simp; done) | (simp [*]; done)), H', ⟨by have := HK1.out; omega⟩, ⟨by repeat (first | (with_reducible first | exact HB.out | apply below_alloc | apply pw_below_drewN | apply below_drew1 | refine below_set ?_ GE108.out) | exact HB.out)⟩⟩ | ((try rw [← Nbq5.out]); exact ⟨(wrap64 (x3_1 + 1)), (wrap64 (x8_1 + 1)), (by first | rfl | (simp; done) | (simp [*]; done)), (by first | rfl | (simp; done) | (simp [*]; done)), H', ⟨by have := HK1.out; omega⟩, ⟨by repeat (first | (with_reducible first | exact HB.out | apply below_alloc | apply pw_below_drewN | apply below_drew1 | refine below_set ?_ GE108.out) | exact HB.out)⟩⟩)
            · replace c6 := Bool.eq_false_iff.mpr c6
              subst c6
              have H1 : (path_Length.l0 k1 (wrap64 (x3_1 + (((rd_T47 l0 x8_1).f1).length : Int))) l0 (l0.length : Int) (wrap64 (x8_1 + 1))) = some r := by rw [if_neg (show ¬ (false = true) by decide)] at H; exact H
              clear H
              have H := H1
              clear H1
              have H' := Aside0.mk H
              clear H
              have p107 : 0 ≤ (x8_1 : Int) := of_decide_eq_true (by first | (with_reducible assumption) | assumption)
              have q107 : x8_1 < (l0.length : Int) := of_decide_eq_true (by first | (with_reducible assumption) | assumption)
              obtain ⟨ad107, A107_1, c107_1, e107, hx107_0, hx107_1, hl107_1, hi107_1⟩ := at_T47 HR0.out x8_1 p107 q107
              (try rw [← Nbq5.out] at hx107_0)
              cases e107
              replace hx107_0 := (HB.out.cell (World.block_lt_of_cell? w _ hx107_0)).trans hx107_0
              replace hx107_1 := (HB.out.cell (World.block_lt_of_cell? w _ hx107_1)).trans hx107_1
              have HR107_1 := Aside0.mk hi107_1
              have HC107_1 := Aside0.mk hl107_1
              clear hi107_1 hl107_1
              replace p107 := eq_true p107
              replace q107 := eq_true q107
              go_wp2_with (first | ((with_reducible refine gate_dst (N := 5) rfl ?_); refine box_event ?hg (N := 5) ?hd (cs := #[.bool false, .slice none 0 0]) (t := 47) ?hr ?_; (case hd => rfl); (case hg => rfl); (case hr => first | (go_simp; done) | (go_simp; rfl) | (go_simp; simp [IntKind.wrap_u8, IntKind.wrap_u32]; done)); intro gb108 hg w9 hbox hb; have n0_ := Aside0.mk (below_step (by repeat (first | (with_reducible first | exact HB.out | apply below_alloc | apply pw_below_drewN | apply below_drew1) | exact HB.out)) hb); have n1_ := Aside0.mk (hbox); have n2_ := Aside0.mk ((by rw [hg]; exact (below_size (by repeat (first | (with_reducible first | exact HB.out | apply below_alloc | apply pw_below_drewN | apply below_drew1) | exact HB.out))) : w.heap.size ≤ gb108)); have n3_ := Aside0.mk ((by rw [hg]; exact (below_size (by repeat (first | (with_reducible first | exact HB.out | apply below_alloc | apply pw_below_drewN | apply below_drew1) | exact HB.out))) : w.heap.size ≤ gb108)); clear HB; have HB := n0_; have BK108 := n1_; have GW108 := n2_; have GE108 := n3_; clear n0_ n1_ n2_ n3_; clear hb hbox hg; have hcz10_0 : w9.cell? ⟨gb108, 0, none⟩ = some (.bool false) := (blk_cell BK108.out 0).trans rfl; have hcz10_1 : w9.cell? ⟨gb108, 1, none⟩ = some (.slice none 0 0) := (blk_cell BK108.out 1).trans rfl; have hfz10_0 := blk_frozen BK108.out 0; have hfz10_1 := blk_frozen BK108.out 1))
              go_roundg k1
              case measure => have := HK1.out; omega
              case rel => first | exact ⟨(wrap64 (x3_1 + (((rd_T47 l0 x8_1).f1).length : Int))), (wrap64 (x8_1 + 1)), (by first | rfl | (simp; done) | (simp [*]; done)), (by first | rfl | (simp; done) | (simp [*]; done)), H', ⟨by have := HK1.out; omega⟩, ⟨by repeat (first | (with_reducible first | exact HB.out | apply below_alloc | apply pw_below_drewN | apply below_drew1 | refine below_set ?_ GE108.out) | exact HB.out)⟩⟩ | ((try rw [← Nbq5.out]); exact ⟨(wrap64 (x3_1 + (((rd_T47 l0 x8_1).f1).length : Int))), (wrap64 (x8_1 + 1)), (by first | rfl | (simp; done) | (simp [*]; done)), (by first | rfl | (simp; done) | (simp [*]; done)), H', ⟨by have := HK1.out; omega⟩, ⟨by repeat (first | (with_reducible first | exact HB.out | apply below_alloc | apply pw_below_drewN | apply below_drew1 | refine below_set ?_ GE108.out) | exact HB.out)⟩⟩)
          · rw [if_neg c4] at H
            exact absurd H (by simp)
        · rw [if_neg c3] at H
          exact absurd H (by simp)
      · rw [if_neg c2] at H
        have c2b0 : decide (x8_1 < (l0.length : Int)) = false := decide_eq_false c2
        clear c2
        obtain rfl := Option.some.inj H
        go_wp2
        go_ret
        exact ⟨by first | rfl | (simp [errW_none, errW_some] <;> rfl) | (simp [*, errW_none, errW_some] <;> rfl), by repeat (first | (with_reducible first | exact HB.out | apply below_alloc | apply pw_below_drewN | apply below_drew1) | exact HB.out)⟩

-- NOT PRINTED: function 21 (decide_Best_3)

-- NOT PRINTED: function 24 (decide_Best_4)

/-! ### path_First: function 36 -/
def path_First.j0 : Nat → List (S47) → Bool → Option (Int × Bool)
  | 0, _, _ => none
  | k + 1, x0, x20 => if x20 = true then (some (0, false)) else (if 0 < (x0.length : Int) then (if 0 < (((rd_T47 x0 0).f1).length : Int) then (some (rd ((rd_T47 x0 0).f1) 0, true)) else (none)) else (none))
def path_First.f (k : Nat) (l0 : List (S47)) : Option (Int × Bool) := if (l0.length : Int) = 0 then (path_First.j0 k l0 true) else (if 0 < (l0.length : Int) then (if (rd_T47 l0 0).f0 = true then (path_First.j0 k l0 true) else (path_First.j0 k l0 ((((rd_T47 l0 0).f1).length : Int) == 0))) else (none))
theorem path_First.mono_l : ∀ k, (∀ y0 y1, LeO (path_First.j0 k y0 y1) (path_First.j0 (k + 1) y0 y1))
  | 0 => fun _ _ r h => by simp [path_First.j0] at h
  | k + 1 => by
    have ih0 := path_First.mono_l k
    · intro y0 y1
      unfold path_First.j0
      repeat' first
      | (with_reducible exact ih0 _ _)
      | (with_reducible exact LeO.refl _)
      | (with_reducible exact LeO.none _)
      | (with_reducible refine LeO.ite ?_ ?_)
      | (with_reducible refine LeO.bind ?_ (fun _ => ?_))
      | exact ih0 _ _
      | exact LeO.none _
      | refine LeO.ite ?_ ?_
      | refine LeO.bind ?_ (fun _ => ?_)
theorem path_First.mono : ∀ a0 k, LeO (path_First.f k a0) (path_First.f (k + 1) a0) := by
  intro a0 k
  have ih0 := path_First.mono_l k
  unfold path_First.f
  repeat' first
      | (with_reducible exact ih0 _ _)
      | (with_reducible exact LeO.refl _)
      | (with_reducible exact LeO.none _)
      | (with_reducible refine LeO.ite ?_ ?_)
      | (with_reducible refine LeO.bind ?_ (fun _ => ?_))
      | exact ih0 _ _
      | exact LeO.none _
      | refine LeO.ite ?_ ?_
      | refine LeO.bind ?_ (fun _ => ?_)
set_option maxHeartbeats 8000000 in
set_option maxRecDepth 100000 in
theorem path_First.calls (k : Nat) (A0 : Option Addr) (c0 : Nat) (l0 : List (S47)) (r1 : Int) (r2 : Bool) (w : World) (hr0 : Kd.C k47 w A0 l0.length l0) (hc0 : l0.length ≤ c0) (h : path_First.f k l0 = some (r1, r2)) :
    Calls Try.prog 36 #[.slice A0 l0.length c0] w fun e w' => e = .returned (.tuple #[.int .i64 r1, .bool r2]) ∧ Drawn0 w w' := by
  have HR0 := Aside0.mk hr0
  have HC0 := Aside0.mk hc0
  clear hr0 hc0
  have H : (if (l0.length : Int) = 0 then (path_First.j0 k l0 true) else (if 0 < (l0.length : Int) then (if (rd_T47 l0 0).f0 = true then (path_First.j0 k l0 true) else (path_First.j0 k l0 ((((rd_T47 l0 0).f1).length : Int) == 0))) else (none))) = some (r1, r2) := h
  clear h
  have HC2 := Aside0.mk H
  clear H
  go_enter Try.func36, Try.ntmps36
  go_upto_region 1 with (fail)
  go_cut [20] (fun v20 wc => ∃ (kq : Nat) (x20_1 : Bool), v20 = .bool x20_1 ∧ Aside0 (path_First.j0 kq l0 x20_1 = some (r1, r2)) ∧ Aside0 (kq ≤ k) ∧ Drawn0 w wc)
  case first =>
    have H := HC2.out
    clear HC2
    by_cases c3 : (l0.length : Int) = 0
    · rw [if_pos c3] at H
      have c3b0 : ((l0.length : Int) == 0) = true := beq_iff_eq.mpr c3
      have c3b1 : ((l0.length : Int) != 0) = false := bne_eq_false_iff_eq.mpr c3
      clear c3
      (first | rw [c3b0] | (simp only [i64_w, i32_w]; rw [c3b0]) | skip)
      have H' := Aside0.mk H
      clear H
      go_wp2
      go_meet
      case rel => exact ⟨_, (true), (by first | rfl | (simp; done) | (simp [*]; done)), H', ⟨by first | omega | exact Nat.le_refl _⟩, by repeat (first | exact Drawn0.refl _ | apply Drawn0.step)⟩
    · rw [if_neg c3] at H
      have c3b0 : ((l0.length : Int) == 0) = false := beq_eq_false_iff_ne.mpr c3
      have c3b1 : ((l0.length : Int) != 0) = true := bne_iff_ne.mpr c3
      have c3b2 : ¬ (l0 = []) := fun h_ => c3 (by rw [h_]; rfl)
      (first | rw [c3b0] | (simp only [i64_w, i32_w]; rw [c3b0]) | skip)
      by_cases c4 : 0 < (l0.length : Int)
      · rw [if_pos c4] at H
        have c4b0 : decide (0 < (l0.length : Int)) = true := decide_eq_true c4
        have c4b1 : decide (0 < l0.length) = true := decide_eq_true (by omega)
        clear c4
        obtain ⟨bq5, hbq5⟩ : ∃ b_ : Bool, b_ = ((rd_T47 l0 0).f0) := ⟨_, rfl⟩
        replace H : (if bq5 = true then (path_First.j0 k l0 true) else (path_First.j0 k l0 ((((rd_T47 l0 0).f1).length : Int) == 0))) = some (r1, r2) := by rw [← hbq5] at H; exact H
        have Nbq5 := Aside0.mk hbq5
        clear hbq5
        by_cases c6 : bq5 = true
        · subst c6
          have H1 : (path_First.j0 k l0 true) = some (r1, r2) := by rw [if_pos rfl] at H; exact H
          clear H
          have H := H1
          clear H1
          have H' := Aside0.mk H
          clear H
          have p109 : 0 ≤ (0 : Int) := (by omega)
          have q109 : 0 < (l0.length : Int) := of_decide_eq_true (by first | (with_reducible assumption) | assumption)
          obtain ⟨ad109, A109_1, c109_1, e109, hx109_0, hx109_1, hl109_1, hi109_1⟩ := at_T47 HR0.out 0 p109 q109
          (try rw [← Nbq5.out] at hx109_0)
          cases e109
          have qi109 : (0 < l0.length) = True := eq_true (by omega)
          (try rw [show ((0 : Int)).toNat = 0 from rfl] at hx109_0)
          (try rw [show 0 * 2 = 0 from rfl] at hx109_0)
          (try rw [Addr.add_zero'] at hx109_0)
          (try rw [show ((0 : Int)).toNat = 0 from rfl] at hx109_1)
          (try rw [show 0 * 2 = 0 from rfl] at hx109_1)
          (try rw [Addr.add_zero'] at hx109_1)
          have HR109_1 := Aside0.mk hi109_1
          have HC109_1 := Aside0.mk hl109_1
          clear hi109_1 hl109_1
          replace p109 := eq_true p109
          replace q109 := eq_true q109
          go_wp2
          go_meet
          case rel => first | exact ⟨_, (true), (by first | rfl | (simp; done) | (simp [*]; done)), H', ⟨by first | omega | exact Nat.le_refl _⟩, by repeat (first | exact Drawn0.refl _ | apply Drawn0.step)⟩ | ((try rw [← Nbq5.out]); exact ⟨_, (true), (by first | rfl | (simp; done) | (simp [*]; done)), H', ⟨by first | omega | exact Nat.le_refl _⟩, by repeat (first | exact Drawn0.refl _ | apply Drawn0.step)⟩)
        · replace c6 := Bool.eq_false_iff.mpr c6
          subst c6
          have H1 : (path_First.j0 k l0 ((((rd_T47 l0 0).f1).length : Int) == 0)) = some (r1, r2) := by rw [if_neg (show ¬ (false = true) by decide)] at H; exact H
          clear H
          have H := H1
          clear H1
          have H' := Aside0.mk H
          clear H
          have p109 : 0 ≤ (0 : Int) := (by omega)
          have q109 : 0 < (l0.length : Int) := of_decide_eq_true (by first | (with_reducible assumption) | assumption)
          obtain ⟨ad109, A109_1, c109_1, e109, hx109_0, hx109_1, hl109_1, hi109_1⟩ := at_T47 HR0.out 0 p109 q109
          (try rw [← Nbq5.out] at hx109_0)
          cases e109
          have qi109 : (0 < l0.length) = True := eq_true (by omega)
          (try rw [show ((0 : Int)).toNat = 0 from rfl] at hx109_0)
          (try rw [show 0 * 2 = 0 from rfl] at hx109_0)
          (try rw [Addr.add_zero'] at hx109_0)
          (try rw [show ((0 : Int)).toNat = 0 from rfl] at hx109_1)
          (try rw [show 0 * 2 = 0 from rfl] at hx109_1)
          (try rw [Addr.add_zero'] at hx109_1)
          have HR109_1 := Aside0.mk hi109_1
          have HC109_1 := Aside0.mk hl109_1
          clear hi109_1 hl109_1
          replace p109 := eq_true p109
          replace q109 := eq_true q109
          have p110 : 0 ≤ (0 : Int) := (by omega)
          have q110 : 0 < (l0.length : Int) := of_decide_eq_true (by first | (with_reducible assumption) | assumption)
          obtain ⟨ad110, A110_1, c110_1, e110, hx110_0, hx110_1, hl110_1, hi110_1⟩ := at_T47 HR0.out 0 p110 q110
          (try rw [← Nbq5.out] at hx110_0)
          obtain rfl : ad109 = ad110 := (by injection e110)
          have qi110 : (0 < l0.length) = True := eq_true (by omega)
          (try rw [show ((0 : Int)).toNat = 0 from rfl] at hx110_0)
          (try rw [show 0 * 2 = 0 from rfl] at hx110_0)
          (try rw [Addr.add_zero'] at hx110_0)
          (try rw [show ((0 : Int)).toNat = 0 from rfl] at hx110_1)
          (try rw [show 0 * 2 = 0 from rfl] at hx110_1)
          (try rw [Addr.add_zero'] at hx110_1)
          have HR110_1 := Aside0.mk hi110_1
          have HC110_1 := Aside0.mk hl110_1
          clear hi110_1 hl110_1
          replace p110 := eq_true p110
          replace q110 := eq_true q110
          have ea_ := Option.some.inj (hx109_1.symm.trans hx110_1)
          injection ea_ with ea_ en_ ec_
          subst ea_
          subst ec_
          clear en_
          go_wp2
          go_meet
          case rel => first | exact ⟨_, (((((rd_T47 l0 0).f1).length : Int) == 0)), (by first | rfl | (simp; done) | (simp [*]; done)), H', ⟨by first | omega | exact Nat.le_refl _⟩, by repeat (first | exact Drawn0.refl _ | apply Drawn0.step)⟩ | ((try rw [← Nbq5.out]); exact ⟨_, (((((rd_T47 l0 0).f1).length : Int) == 0)), (by first | rfl | (simp; done) | (simp [*]; done)), H', ⟨by first | omega | exact Nat.le_refl _⟩, by repeat (first | exact Drawn0.refl _ | apply Drawn0.step)⟩)
      · rw [if_neg c4] at H
        exact absurd H (by simp)
  case rest =>
    clear HC2
    try clear c1
    try clear p1
    try clear q1
    try clear hx1
    try clear qi1
    try clear p2
    try clear c3
    try clear c3b0
    try clear c3b1
    try clear c3b2
    try clear c4
    try clear c4b0
    try clear c4b1
    try clear q5
    try clear c6
    try clear hx109_0
    try clear hx109_1
    try clear hx110_0
    try clear hx110_1
    try clear p109
    try clear p110
    try clear q109
    try clear q110
    obtain ⟨kq, x20_1, rfl, HA, HJ1, ⟨mc1, rfl⟩⟩ := hcut
    cases kq with
    | zero => exact absurd HA.out (by simp [path_First.j0])
    | succ kj1 =>
      have H := HA.out
      clear HA
      simp only [path_First.j0] at H
      by_cases c7 : x20_1 = true
      · subst c7
        have H1 : (some (0, false)) = some (r1, r2) := by rw [if_pos rfl] at H; exact H
        clear H
        have H := H1
        clear H1
        simp only [Option.some.injEq, Prod.mk.injEq] at H
        obtain ⟨rfl, rfl⟩ := H
        go_wp2
        go_ret2
        exact ⟨by first | rfl | (simp; done) | (simp [*]; done), by repeat (first | exact Drawn0.refl _ | apply Drawn0.step)⟩
      · replace c7 := Bool.eq_false_iff.mpr c7
        subst c7
        have H1 : (if 0 < (l0.length : Int) then (if 0 < (((rd_T47 l0 0).f1).length : Int) then (some (rd ((rd_T47 l0 0).f1) 0, true)) else (none)) else (none)) = some (r1, r2) := by rw [if_neg (show ¬ (false = true) by decide)] at H; exact H
        clear H
        have H := H1
        clear H1
        by_cases c8 : 0 < (l0.length : Int)
        · rw [if_pos c8] at H
          have c8b0 : decide (0 < (l0.length : Int)) = true := decide_eq_true c8
          have c8b1 : decide (0 < l0.length) = true := decide_eq_true (by omega)
          clear c8
          by_cases c9 : 0 < (((rd_T47 l0 0).f1).length : Int)
          · rw [if_pos c9] at H
            have c9b0 : decide (0 < (((rd_T47 l0 0).f1).length : Int)) = true := decide_eq_true c9
            have c9b1 : decide (0 < ((rd_T47 l0 0).f1).length) = true := decide_eq_true (by omega)
            clear c9
            simp only [Option.some.injEq, Prod.mk.injEq] at H
            obtain ⟨rfl, rfl⟩ := H
            have p111 : 0 ≤ (0 : Int) := (by omega)
            have q111 : 0 < (l0.length : Int) := of_decide_eq_true (by first | (with_reducible assumption) | assumption)
            obtain ⟨ad111, A111_1, c111_1, e111, hx111_0, hx111_1, hl111_1, hi111_1⟩ := at_T47 HR0.out 0 p111 q111
            cases e111
            have qi111 : (0 < l0.length) = True := eq_true (by omega)
            (try rw [show ((0 : Int)).toNat = 0 from rfl] at hx111_0)
            (try rw [show 0 * 2 = 0 from rfl] at hx111_0)
            (try rw [Addr.add_zero'] at hx111_0)
            (try rw [show ((0 : Int)).toNat = 0 from rfl] at hx111_1)
            (try rw [show 0 * 2 = 0 from rfl] at hx111_1)
            (try rw [Addr.add_zero'] at hx111_1)
            have HR111_1 := Aside0.mk hi111_1
            have HC111_1 := Aside0.mk hl111_1
            clear hi111_1 hl111_1
            replace p111 := eq_true p111
            replace q111 := eq_true q111
            have p112 : 0 ≤ (0 : Int) := (by omega)
            have q112 : 0 < (((rd_T47 l0 0).f1).length : Int) := of_decide_eq_true (by first | (with_reducible assumption) | assumption)
            obtain ⟨ad112, e112, hx112_0⟩ := Kd.at_int HR111_1.out 0 p112 q112
            cases e112
            have qi112 : (0 < ((rd_T47 l0 0).f1).length) = True := eq_true (by omega)
            (try rw [show ((0 : Int)).toNat = 0 from rfl] at hx112_0)
            (try rw [Addr.add_zero'] at hx112_0)
            replace p112 := eq_true p112
            replace q112 := eq_true q112
            go_wp2
            go_ret2
            exact ⟨by first | rfl | (simp; done) | (simp [*]; done), by repeat (first | exact Drawn0.refl _ | apply Drawn0.step)⟩
          · rw [if_neg c9] at H
            exact absurd H (by simp)
        · rw [if_neg c8] at H
          exact absurd H (by simp)

-- NOT PRINTED: function 52 (slices_IndexFunc_int_int)

-- NOT PRINTED: function 37 (slices_ContainsFunc_int_int)

-- NOT PRINTED: function 38 (decide_chooser_beaten_1)

-- NOT PRINTED: function 26 (decide_chooser_beaten)

-- NOT PRINTED: function 25 (decide_Best_5)

-- NOT PRINTED: function 39 (slices_IndexFunc_decide_Info_decide_Info)

-- NOT PRINTED: function 40 (decide_chooser_info_1)

-- NOT PRINTED: function 28 (decide_chooser_info)

-- NOT PRINTED: function 27 (decide_Best_6)

-- NOT PRINTED: function 29 (decide_Best_7)

-- NOT PRINTED: function 30 (decide_Best_8)

end Go.Proofs.Ytediicgkcgfghaa.PDecideSteps
