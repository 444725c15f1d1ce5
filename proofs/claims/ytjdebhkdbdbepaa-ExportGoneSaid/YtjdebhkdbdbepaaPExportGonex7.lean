-- Lean text by a program of this repo (wip/tools/printx.py), out of Lean's own print of the translation
import Derived.Test.YtjdebhkdbdbepaaHelp
import Derived.Test.YtjdebhkdbdbepaaPExportGonex0
import Derived.Test.YtjdebhkdbdbepaaPExportGonex6
namespace Go.Proofs.Ytjdebhkdbdbepaa.PExportGone
open Go.RowKit Go.Proofs.YtjdebhkdbdbepaaW.PrintWords Go.Proofs.YtjdebhkdbdbepaaW.PrintLast Go.Proofs.YtjdebhkdbdbepaaW.PrintMore
attribute [local go_sem] max2_int min2_int max_two min_two max_three min_three max_four min_four   -- for this text's walks alone
set_option linter.unusedVariables false
set_option linter.unusedSimpArgs false

/-! ### path_Same: function 55 -/
-- FN rounds=0 making=1
def all2 {α : Type} (f : α → α → Bool) : List α → List α → Bool
  | [], [] => true
  | x :: l, y :: m => f x y && all2 f l m
  | _, _ => false
theorem all2_ne {α : Type} (f : α → α → Bool) : ∀ (l m : List α), l.length ≠ m.length → all2 f l m = false
  | [], [], h => absurd rfl h
  | [], _ :: _, _ => rfl
  | _ :: _, [], _ => rfl
  | x :: l, y :: m, h => by
    unfold all2
    rw [all2_ne f l m (fun e => h (by rw [List.length_cons, List.length_cons, e])), Bool.and_false]
theorem all2_step {α : Type} (f : α → α → Bool) (z z' : α) (l m : List α) (x : Int) (h0 : 0 ≤ x) (h1 : x < (l.length : Int)) (h2 : x < (m.length : Int)) :
    all2 f (l.drop x.toNat) (m.drop x.toNat) = (f (l.getD x.toNat z) (m.getD x.toNat z') && all2 f (l.drop (x + 1).toNat) (m.drop (x + 1).toNat)) := by
  have i1 : x.toNat < l.length := by omega
  have i2 : x.toNat < m.length := by omega
  rw [show (x + 1).toNat = x.toNat + 1 by omega, List.drop_eq_getElem_cons i1, List.drop_eq_getElem_cons i2, List.getD_eq_getElem?_getD, List.getD_eq_getElem?_getD, List.getElem?_eq_getElem i1, List.getElem?_eq_getElem i2]
  rfl
theorem equal_l0 (l m : List Int) (hl : l.length ≤ 9223372036854775807) (he : l.length = m.length) (d : Nat) : ∀ (k i : Nat), i + d = l.length →
    slices_Equal_int_int.l0 (k + d + 1) l m (l.length : Int) (i : Int) = some (l.drop i == m.drop i) := by
  induction d with
  | zero =>
    intro k i hi
    conv => lhs; unfold slices_Equal_int_int.l0
    rw [if_neg (by omega), List.drop_of_length_le (by omega), List.drop_of_length_le (by omega)]
    rfl
  | succ d ih =>
    intro k i hi
    have hlt : i < l.length := by omega
    have hlt2 : i < m.length := by omega
    rw [show k + (d + 1) + 1 = (k + d + 1) + 1 by omega]
    conv => lhs; unfold slices_Equal_int_int.l0
    have hr : ∀ (q : List Int) (h : i < q.length), rd q (i : Int) = q[i] := by
      intro q h
      unfold rd
      rw [List.getD_eq_getElem?_getD, Int.toNat_natCast, List.getElem?_eq_getElem h]; rfl
    rw [if_pos (by omega), if_pos (by omega), if_pos (by omega), if_pos (by omega), hr l hlt, hr m hlt2, List.drop_eq_getElem_cons hlt, List.drop_eq_getElem_cons hlt2, List.cons_beq_cons]
    by_cases hx : l[i] = m[i]
    · rw [if_pos hx, show wrap64 ((i : Int) + 1) = ((i + 1 : Nat) : Int) by unfold wrap64; omega, ih k (i + 1) (by omega), hx, beq_self_eq_true, Bool.true_and]
    · rw [if_neg hx, beq_eq_false_iff_ne.2 hx, Bool.false_and]
theorem equal_eq (l m : List Int) (hl : l.length ≤ 9223372036854775807) : slices_Equal_int_int.f (l.length + 1) l m = some (l == m) := by
  unfold slices_Equal_int_int.f
  by_cases he : l.length = m.length
  · rw [if_pos (by omega)]
    have := equal_l0 l m hl he l.length 0 0 (by omega)
    rw [show 0 + l.length + 1 = l.length + 1 by omega] at this
    exact this
  · rw [if_neg (by omega), beq_eq_false_iff_ne.2 (fun e => he (by rw [e]))]
def segEq (x y : S69) : Bool := x.f0 == y.f0 && x.f1 == y.f1
theorem seg_1 (x y : S69) (A1 : Option Addr) (c1 : Nat) (A2 : Option Addr) (c2 : Nat) (w : World) (hr1 : Kd.C (Kd.int .i64) w A1 x.f1.length x.f1) (hc1 : x.f1.length ≤ c1) (hr2 : Kd.C (Kd.int .i64) w A2 y.f1.length y.f1) (hc2 : y.f1.length ≤ c2) :
    Calls Try.prog 71 #[.agg #[.bool x.f0, .slice A1 x.f1.length c1], .agg #[.bool y.f0, .slice A2 y.f1.length c2]] w fun e w' => e = .returned (.bool (segEq x y)) ∧ Below w.heap.size w w' := by
  refine path_Same_1.calls (x.f1.length + 1) x.f0 A1 c1 x.f1 y.f0 A2 c2 y.f1 (segEq x y) w hr1 hc1 hr2 hc2 ?_
  unfold path_Same_1.f segEq
  rw [equal_eq x.f1 y.f1 (Kd.C_max hr1)]
  cases h : (x.f0 == y.f0) <;> simp
set_option maxHeartbeats 4000000 in
set_option maxRecDepth 100000 in
theorem eqFunc_seg (A0 : Option Addr) (c0 : Nat) (l0 : List S69) (A1 : Option Addr) (c1 : Nat) (l1 : List S69) (w : World) (hr0 : Kd.C k69 w A0 l0.length l0) (hc0 : l0.length ≤ c0) (hr1 : Kd.C k69 w A1 l1.length l1) (hc1 : l1.length ≤ c1) :
    Calls Try.prog 70 #[.slice A0 l0.length c0, .slice A1 l1.length c1, .func (.func 71) #[] #[]] w fun e w' => e = .returned (.bool (all2 segEq l0 l1)) ∧ Below w.heap.size w w' := by
  have hu69 := Try.underlying69
  have HM := Aside0.mk (Kd.C_max hr0)
  by_cases hlen : l0.length = l1.length
  · have d0 : ((l0.length : Int) != (l1.length : Int)) = false := by simp [hlen]
    have d1 : (l0.length != l1.length) = false := by simp [hlen]
    obtain ⟨r, hr⟩ : ∃ r, r = all2 segEq l0 l1 := ⟨_, rfl⟩
    have HR := Aside0.mk (show all2 segEq (l0.drop 0) (l1.drop 0) = r from hr.symm)
    rw [← hr]
    have HR0 := Aside0.mk hr0
    have HR1 := Aside0.mk hr1
    have HC0 := Aside0.mk hc0
    have HC1 := Aside0.mk hc1
    have HLE := Aside0.mk hlen
    clear hr0 hr1 hc0 hc1 hlen hr
    go_enter Try.func70, Try.ntmps70
    go_wp2
    go_loopg [17] (l0.length + 1) (fun kq v17 wr => ∃ x : Int, v17 = .int .i64 x ∧ Aside0 (0 ≤ x ∧ x + kq = l0.length + 1 ∧ all2 segEq (l0.drop x.toNat) (l1.drop x.toNat) = r) ∧ Aside0 (Below w.heap.size w wr))
    case atStart => exact ⟨0, rfl, ⟨by omega, by omega, HR.out⟩, ⟨Below.refl _ _⟩⟩
    case round =>
      obtain ⟨x, rfl, HF, HB⟩ := hrel
      by_cases hlt : x < (l0.length : Int)
      · have q1 := hlt
        have q2 : x < (l1.length : Int) := by have := HLE.out; omega
        have p1 := HF.out.1
        have c4b0 : decide (x < (l0.length : Int)) = true := decide_eq_true hlt
        have HL := Aside0.mk hlt
        have HST := Aside0.mk (all2_step segEq z69 z69 l0 l1 x p1 q1 q2)
        clear hlt
        obtain ⟨ad0, B0, b0, e0, h00, h10, hn0, hq0⟩ := at_T69 (Kd.C_below HR0.out HB.out) x p1 q1
        obtain ⟨ad1, B1, b1, e1, h01, h11, hn1, hq1⟩ := at_T69 (Kd.C_alloc (Kd.C_below HR1.out HB.out) (.cells #[.bool (rd_T69 l0 x).f0, .slice B0 (rd_T69 l0 x).f1.length b0] 69)) x p1 q2
        cases e0
        cases e1
        have HX := Aside0.mk (fun W (hW : Below (wr.alloc (.cells #[.bool (rd_T69 l0 x).f0, .slice B0 (rd_T69 l0 x).f1.length b0] 69)).heap.size (wr.alloc (.cells #[.bool (rd_T69 l0 x).f0, .slice B0 (rd_T69 l0 x).f1.length b0] 69)) W) => seg_1 (rd_T69 l0 x) (rd_T69 l1 x) _ _ _ _ W (Kd.C_below (Kd.C_alloc hq0 _) hW) hn0 (Kd.C_below hq1 hW) hn1)
        have HST2 : Aside0 (all2 segEq (l0.drop x.toNat) (l1.drop x.toNat) = (segEq (rd_T69 l0 x) (rd_T69 l1 x) && all2 segEq (l0.drop (x + 1).toNat) (l1.drop (x + 1).toNat))) := HST
        clear hq0 hq1 hn0 hn1 HST
        replace p1 := eq_true p1
        replace q1 := eq_true q1
        replace q2 := eq_true q2
        rcases hqx : segEq (rd_T69 l0 x) (rd_T69 l1 x) with _ | _
        · rw [hqx] at HX HST2
          clear hqx
          go_wp2_with fail
          refine (HX.out _ (by repeat (first | exact Below.refl _ _ | apply below_alloc | apply pw_below_drewN | apply below_drew1))).mono ?_
          rintro e w1 ⟨rfl, hb1⟩
          have HB1 := Aside0.mk hb1
          clear hb1 HX
          go_wp2
          go_ret
          exact ⟨by rw [← HF.out.2.2, HST2.out]; rfl, HB.out.trans (((below_alloc (below_alloc (Below.refl _ _) _) _).trans (HB1.out.mono (by simp; omega))).mono HB.out.size)⟩
        · rw [hqx] at HX HST2
          clear hqx
          cases gk with
          | zero => exact absurd HF.out.2.1 (by have := HL.out; omega)
          | succ k1 =>
          go_wp2_with fail
          refine (HX.out _ (by repeat (first | exact Below.refl _ _ | apply below_alloc | apply pw_below_drewN | apply below_drew1))).mono ?_
          rintro e w1 ⟨rfl, hb1⟩
          have HB1 := Aside0.mk hb1
          clear hb1 HX
          go_wp2
          go_roundg k1
          case measure => omega
          case rel =>
            refine ⟨x + 1, (by have hw : wrap64 (x + 1) = x + 1 := (by have := HM.out; have := HL.out; have := HF.out.1; unfold wrap64; omega); first | rfl | (simp [hw]; done)), ⟨by have := HF.out.1; omega, by have := HF.out.2.1; omega, by rw [← HF.out.2.2, HST2.out]; rfl⟩, ⟨HB.out.trans (((below_alloc (below_alloc (Below.refl _ _) _) _).trans (HB1.out.mono (by simp; omega))).mono HB.out.size)⟩⟩
      · have c4b0 : decide (x < (l0.length : Int)) = false := decide_eq_false hlt
        have HL := Aside0.mk hlt
        clear hlt
        go_wp2
        go_ret
        exact ⟨by rw [← HF.out.2.2, List.drop_of_length_le (by have := HL.out; omega), List.drop_of_length_le (by have := HL.out; have := HLE.out; omega)]; rfl, HB.out⟩
  · have d0 : ((l0.length : Int) != (l1.length : Int)) = true := by simp; omega
    have d1 : (l0.length != l1.length) = true := by simpa using hlen
    have HE := Aside0.mk (all2_ne segEq l0 l1 hlen)
    clear hr0 hr1 hlen
    go_enter Try.func70, Try.ntmps70
    go_wp2
    go_ret
    exact ⟨by rw [HE.out]; rfl, Below.refl _ _⟩
def path_Same.f (l0 : List S69) (l1 : List S69) : Option Bool := some (all2 segEq l0 l1)
set_option maxHeartbeats 4000000 in
set_option maxRecDepth 100000 in
theorem path_Same.calls (A0 : Option Addr) (c0 : Nat) (l0 : List S69) (A1 : Option Addr) (c1 : Nat) (l1 : List S69) (r : Bool) (w : World) (hr0 : Kd.C k69 w A0 l0.length l0) (hc0 : l0.length ≤ c0) (hr1 : Kd.C k69 w A1 l1.length l1) (hc1 : l1.length ≤ c1) (h : path_Same.f l0 l1 = some r) :
    Calls Try.prog 55 #[.slice A0 l0.length c0, .slice A1 l1.length c1] w fun e w' => e = .returned (.bool r) ∧ Below w.heap.size w w' := by
  obtain rfl := Option.some.inj h
  have HX := Aside0.mk (eqFunc_seg A0 c0 l0 A1 c1 l1 w hr0 hc0 hr1 hc1)
  clear h hr0 hr1 hc0 hc1
  generalize all2 segEq l0 l1 = r at HX ⊢
  go_enter Try.func55, Try.ntmps55
  go_wp2_with fail
  refine HX.out.mono ?_
  rintro e w1 ⟨rfl, hb1⟩
  have HB := Aside0.mk hb1
  clear hb1 HX
  go_wp2
  go_ret
  exact ⟨rfl, HB.out⟩


/-! ### slices_Equal_uint32_uint32: function 56 -/
def slices_Equal_uint32_uint32.l0 : Nat → List Int → List Int → Int → Int → Option (Bool)
  | 0, _, _, _, _ => none
  | k + 1, x0, x1, x12, x13 => if x13 < x12 then (if 0 ≤ x13 then (if x13 < (x0.length : Int) then (if x13 < (x1.length : Int) then (if (rd x0 x13) = (rd x1 x13) then (slices_Equal_uint32_uint32.l0 k x0 x1 x12 (wrap64 (x13 + 1))) else (some false)) else (none)) else (none)) else (none)) else (some true)
def slices_Equal_uint32_uint32.f (k : Nat) (l0 : List Int) (l1 : List Int) : Option (Bool) := if (l0.length : Int) = (l1.length : Int) then (slices_Equal_uint32_uint32.l0 k l0 l1 (l0.length : Int) 0) else (some false)
theorem slices_Equal_uint32_uint32.mono_l : ∀ k, (∀ y0 y1 y2 y3, LeO (slices_Equal_uint32_uint32.l0 k y0 y1 y2 y3) (slices_Equal_uint32_uint32.l0 (k + 1) y0 y1 y2 y3))
  | 0 => fun _ _ _ _ r h => by simp [slices_Equal_uint32_uint32.l0] at h
  | k + 1 => by
    have ih0 := slices_Equal_uint32_uint32.mono_l k
    · intro y0 y1 y2 y3
      unfold slices_Equal_uint32_uint32.l0
      repeat' first
      | (with_reducible exact ih0 _ _ _ _)
      | (with_reducible exact LeO.refl _)
      | (with_reducible exact LeO.none _)
      | (with_reducible refine LeO.ite ?_ ?_)
      | (with_reducible refine LeO.bind ?_ (fun _ => ?_))
      | exact ih0 _ _ _ _
      | exact LeO.none _
      | refine LeO.ite ?_ ?_
      | refine LeO.bind ?_ (fun _ => ?_)
theorem slices_Equal_uint32_uint32.mono : ∀ a0 a1 k, LeO (slices_Equal_uint32_uint32.f k a0 a1) (slices_Equal_uint32_uint32.f (k + 1) a0 a1) := by
  intro a0 a1 k
  have ih0 := slices_Equal_uint32_uint32.mono_l k
  unfold slices_Equal_uint32_uint32.f
  repeat' first
      | (with_reducible exact ih0 _ _ _ _)
      | (with_reducible exact LeO.refl _)
      | (with_reducible exact LeO.none _)
      | (with_reducible refine LeO.ite ?_ ?_)
      | (with_reducible refine LeO.bind ?_ (fun _ => ?_))
      | exact ih0 _ _ _ _
      | exact LeO.none _
      | refine LeO.ite ?_ ?_
      | refine LeO.bind ?_ (fun _ => ?_)
set_option maxHeartbeats 8000000 in
set_option maxRecDepth 100000 in
theorem slices_Equal_uint32_uint32.calls (k : Nat) (A0 : Option Addr) (c0 : Nat) (l0 : List Int) (A1 : Option Addr) (c1 : Nat) (l1 : List Int) (r : Bool) (w : World) (hr0 : Kd.C (Kd.int .u32) w A0 l0.length l0) (hc0 : l0.length ≤ c0) (hr1 : Kd.C (Kd.int .u32) w A1 l1.length l1) (hc1 : l1.length ≤ c1) (h : slices_Equal_uint32_uint32.f k l0 l1 = some r) :
    Calls Try.prog 56 #[.slice A0 l0.length c0, .slice A1 l1.length c1] w fun e w' => e = .returned (.bool r) ∧ Drawn0 w w' := by
 have HR0 := Aside0.mk hr0
 have HC0 := Aside0.mk hc0
 clear hr0 hc0
 have HR1 := Aside0.mk hr1
 have HC1 := Aside0.mk hc1
 clear hr1 hc1
 have H : (if (l0.length : Int) = (l1.length : Int) then (slices_Equal_uint32_uint32.l0 k l0 l1 (l0.length : Int) 0) else (some false)) = some r := h
 clear h
 by_cases c3 : (l0.length : Int) = (l1.length : Int)
 rotate_left
 ·rw [if_neg c3] at H
  have c3b0 : ((l0.length : Int) == (l1.length : Int)) = false := beq_eq_false_iff_ne.mpr c3
  have c3b1 : ((l0.length : Int) != (l1.length : Int)) = true := bne_iff_ne.mpr c3
  have c3b2 : (l0.length == l1.length) = false := by first | simpa using c3 | (simp at c3 ⊢; omega)
  obtain rfl := Option.some.inj H
  go_enter Try.func56, Try.ntmps56
  go_wp2
  repeat (go_quiet (fail); try go_wp2)
  go_ret
  exact ⟨by first | rfl | (simp; done) | (simp [*]; done), by repeat (first | exact Drawn0.refl _ | apply Drawn0.step)⟩
 rw [if_pos c3] at H
 have c3b0 : ((l0.length : Int) == (l1.length : Int)) = true := beq_iff_eq.mpr c3
 have c3b1 : ((l0.length : Int) != (l1.length : Int)) = false := bne_eq_false_iff_eq.mpr c3
 have c3b2 : (l0.length == l1.length) = true := by first | simpa using c3 | (simp at c3 ⊢; omega)
 clear c3
 have H' := Aside0.mk H
 clear H
 go_enter Try.func56, Try.ntmps56
 go_wp2
 repeat (go_quiet (fail); try go_wp2)
 go_loopg [13] k (fun kq v13 w' => ∃ (x13_1 : Int), v13 = .int .i64 x13_1 ∧ Aside0 (slices_Equal_uint32_uint32.l0 kq l0 l1 (l0.length : Int) x13_1 = some r) ∧ Aside0 (kq ≤ k) ∧ Drawn0 w w')
 case atStart => exact ⟨(0), (by first | rfl | (simp; done) | (simp [*]; done)), H', ⟨Nat.le_refl _⟩, by repeat (first | exact Drawn0.refl _ | apply Drawn0.step)⟩
 clear H'
 try clear c1
 try clear p2
 try clear c3
 try clear c3b0
 try clear c3b1
 try clear c3b2
 obtain ⟨x13_1, rfl, HA, HK1, ⟨m1, rfl⟩⟩ := hrel
 cases gk with
 | zero => exact absurd HA.out (by simp [slices_Equal_uint32_uint32.l0])
 | succ k1 =>
 have H := HA.out
 clear HA
 simp only [slices_Equal_uint32_uint32.l0] at H
 by_cases c4 : x13_1 < (l0.length : Int)
 rotate_left
 ·rw [if_neg c4] at H
  have c4b0 : decide (x13_1 < (l0.length : Int)) = false := decide_eq_false c4
  clear c4
  obtain rfl := Option.some.inj H
  go_wp2
  repeat (go_quiet (fail); try go_wp2)
  go_ret
  exact ⟨by first | rfl | (simp; done) | (simp [*]; done), by repeat (first | exact Drawn0.refl _ | apply Drawn0.step)⟩
 rw [if_pos c4] at H
 have c4b0 : decide (x13_1 < (l0.length : Int)) = true := decide_eq_true c4
 clear c4
 by_cases c5 : 0 ≤ x13_1
 rotate_left
 ·rw [if_neg c5] at H
  exact absurd H (by simp)
 rw [if_pos c5] at H
 have c5b0 : decide (0 ≤ x13_1) = true := decide_eq_true c5
 clear c5
 by_cases c6 : x13_1 < (l0.length : Int)
 rotate_left
 ·rw [if_neg c6] at H
  exact absurd H (by simp)
 rw [if_pos c6] at H
 have c6b0 : decide (x13_1 < (l0.length : Int)) = true := decide_eq_true c6
 clear c6
 by_cases c7 : x13_1 < (l1.length : Int)
 rotate_left
 ·rw [if_neg c7] at H
  exact absurd H (by simp)
 rw [if_pos c7] at H
 have c7b0 : decide (x13_1 < (l1.length : Int)) = true := decide_eq_true c7
 clear c7
 by_cases c8 : (rd l0 x13_1) = (rd l1 x13_1)
 rotate_left
 ·rw [if_neg c8] at H
  have c8b0 : ((rd l0 x13_1) == (rd l1 x13_1)) = false := beq_eq_false_iff_ne.mpr c8
  have c8b1 : ((rd l0 x13_1) != (rd l1 x13_1)) = true := bne_iff_ne.mpr c8
  obtain rfl := Option.some.inj H
  have p145 : 0 ≤ (x13_1 : Int) := of_decide_eq_true (by first | (with_reducible assumption) | assumption)
  have q145 : x13_1 < (l0.length : Int) := of_decide_eq_true (by first | (with_reducible assumption) | assumption)
  obtain ⟨ad145, e145, hx145_0⟩ := Kd.at_int HR0.out x13_1 p145 q145
  cases e145
  replace p145 := eq_true p145
  replace q145 := eq_true q145
  have p146 : 0 ≤ (x13_1 : Int) := of_decide_eq_true (by first | (with_reducible assumption) | assumption)
  have q146 : x13_1 < (l1.length : Int) := of_decide_eq_true (by first | (with_reducible assumption) | assumption)
  obtain ⟨ad146, e146, hx146_0⟩ := Kd.at_int HR1.out x13_1 p146 q146
  cases e146
  replace p146 := eq_true p146
  replace q146 := eq_true q146
  go_wp2
  repeat (go_quiet (fail); try go_wp2)
  go_ret
  exact ⟨by first | rfl | (simp; done) | (simp [*]; done), by repeat (first | exact Drawn0.refl _ | apply Drawn0.step)⟩
 rw [if_pos c8] at H
 have c8b0 : ((rd l0 x13_1) == (rd l1 x13_1)) = true := beq_iff_eq.mpr c8
 have c8b1 : ((rd l0 x13_1) != (rd l1 x13_1)) = false := bne_eq_false_iff_eq.mpr c8
 clear c8
 have H' := Aside0.mk H
 clear H
 have p145 : 0 ≤ (x13_1 : Int) := of_decide_eq_true (by first | (with_reducible assumption) | assumption)
 have q145 : x13_1 < (l0.length : Int) := of_decide_eq_true (by first | (with_reducible assumption) | assumption)
 obtain ⟨ad145, e145, hx145_0⟩ := Kd.at_int HR0.out x13_1 p145 q145
 cases e145
 replace p145 := eq_true p145
 replace q145 := eq_true q145
 have p146 : 0 ≤ (x13_1 : Int) := of_decide_eq_true (by first | (with_reducible assumption) | assumption)
 have q146 : x13_1 < (l1.length : Int) := of_decide_eq_true (by first | (with_reducible assumption) | assumption)
 obtain ⟨ad146, e146, hx146_0⟩ := Kd.at_int HR1.out x13_1 p146 q146
 cases e146
 replace p146 := eq_true p146
 replace q146 := eq_true q146
 go_wp2
 repeat (go_quiet (fail); try go_wp2)
 go_roundg k1
 case measure => have := HK1.out; omega
 case rel => exact ⟨(wrap64 (x13_1 + 1)), (by first | rfl | (simp; done) | (simp [*]; done)), H', ⟨by have := HK1.out; omega⟩, by repeat (first | exact Drawn0.refl _ | apply Drawn0.step)⟩

-- NOT PRINTED: function 57 (slices_EqualFunc_api_Raw_api_Raw_api_Raw_api_Raw)

/-! ### bytes_Equal: function 59 -/
def bytes_Equal.f (l0 : List Int) (l1 : List Int) : Option (Bool) := some ((strOfNums l0).toList == (strOfNums l1).toList)
set_option maxHeartbeats 8000000 in
set_option maxRecDepth 100000 in
theorem bytes_Equal.calls (A0 : Option Addr) (c0 : Nat) (l0 : List Int) (A1 : Option Addr) (c1 : Nat) (l1 : List Int) (r : Bool) (w : World) (hr0 : Kd.C (Kd.int .u8) w A0 l0.length l0) (hc0 : l0.length ≤ c0) (hr1 : Kd.C (Kd.int .u8) w A1 l1.length l1) (hc1 : l1.length ≤ c1) (h : bytes_Equal.f l0 l1 = some r) :
    Calls Try.prog 59 #[.slice A0 l0.length c0, .slice A1 l1.length c1] w fun e w' => e = .returned (.bool r) ∧ Drawn0 w w' := by
 have HR0 := Aside0.mk hr0
 have HC0 := Aside0.mk hc0
 clear hr0 hc0
 have HR1 := Aside0.mk hr1
 have HC1 := Aside0.mk hc1
 clear hr1 hc1
 have H : (some ((strOfNums l0).toList == (strOfNums l1).toList)) = some r := h
 clear h
 obtain rfl := Option.some.inj H
 have hcv3 := Kd.C_string (P := Try.prog) (A := A0) (c := c0) Try.underlying71 Try.underlying5 Try.underlying9 HR0.out
 have hcv4 := Kd.C_string (P := Try.prog) (A := A1) (c := c1) Try.underlying71 Try.underlying5 Try.underlying9 HR1.out
 go_enter Try.func59, Try.ntmps59
 go_wp2
 go_ret
 exact ⟨by first | rfl | (simp; done) | (simp [*]; done), by repeat (first | exact Drawn0.refl _ | apply Drawn0.step)⟩

/-! ### attr_Same_1: function 58 -/
def attr_Same_1.f (a0_0 : Int) (a0_1 : Int) (l0_2 : List Int) (a1_0 : Int) (a1_1 : Int) (l1_2 : List Int) : Option (Bool) := if a0_0 = a1_0 then (if a0_1 = a1_1 then ((bytes_Equal.f l0_2 l1_2).bind fun t149 => (some t149)) else (some false)) else (some false)
set_option maxHeartbeats 8000000 in
set_option maxRecDepth 100000 in
theorem attr_Same_1.calls (a0_0 : Int) (a0_1 : Int) (A0_2 : Option Addr) (c0_2 : Nat) (l0_2 : List Int) (a1_0 : Int) (a1_1 : Int) (A1_2 : Option Addr) (c1_2 : Nat) (l1_2 : List Int) (r : Bool) (w : World) (hr0_2 : Kd.C (Kd.int .u8) w A0_2 l0_2.length l0_2) (hc0_2 : l0_2.length ≤ c0_2) (hr1_2 : Kd.C (Kd.int .u8) w A1_2 l1_2.length l1_2) (hc1_2 : l1_2.length ≤ c1_2) (h : attr_Same_1.f a0_0 a0_1 l0_2 a1_0 a1_1 l1_2 = some r) :
    Calls Try.prog 58 #[.agg #[.int .i64 a0_0, .int .i64 a0_1, .slice A0_2 l0_2.length c0_2], .agg #[.int .i64 a1_0, .int .i64 a1_1, .slice A1_2 l1_2.length c1_2]] w fun e w' => e = .returned (.bool r) ∧ Below w.heap.size w w' := by
 have hu73 := Try.underlying73
 have HR0_2 := Aside0.mk hr0_2
 have HC0_2 := Aside0.mk hc0_2
 clear hr0_2 hc0_2
 have HR1_2 := Aside0.mk hr1_2
 have HC1_2 := Aside0.mk hc1_2
 clear hr1_2 hc1_2
 have HB := Aside0.mk (Below.refl w.heap.size w)
 have H : (if a0_0 = a1_0 then (if a0_1 = a1_1 then ((bytes_Equal.f l0_2 l1_2).bind fun t149 => (some t149)) else (some false)) else (some false)) = some r := h
 clear h
 by_cases c3 : a0_0 = a1_0
 rotate_left
 ·rw [if_neg c3] at H
  have c3b0 : (a0_0 == a1_0) = false := beq_eq_false_iff_ne.mpr c3
  have c3b1 : (a0_0 != a1_0) = true := bne_iff_ne.mpr c3
  obtain rfl := Option.some.inj H
  go_enter Try.func58, Try.ntmps58
  go_wp2_with (first | ((with_reducible refine gate_dst (N := 2) rfl ?_); refine box_event ?hg (N := 2) ?hd (cs := #[.int .i64 a0_0, .int .i64 a0_1, .slice A0_2 l0_2.length c0_2]) (t := 73) ?hr ?_; (case hd => rfl); (case hg => rfl); (case hr => first | (go_simp; done) | (go_simp; rfl) | (go_simp; simp [IntKind.wrap_u8, IntKind.wrap_u32]; done)); intro gb147 hg w16 hbox hb; have n0_ := Aside0.mk (below_step (by repeat (first | (with_reducible first | exact HB.out | apply below_alloc | apply pw_below_drewN | apply below_drew1) | exact HB.out)) hb); have n1_ := Aside0.mk (hbox); have n2_ := Aside0.mk ((by rw [hg]; exact (below_size (by repeat (first | (with_reducible first | exact HB.out | apply below_alloc | apply pw_below_drewN | apply below_drew1) | exact HB.out))) : w.heap.size ≤ gb147)); have n3_ := Aside0.mk ((by rw [hg]; exact (below_size (by repeat (first | (with_reducible first | exact HB.out | apply below_alloc | apply pw_below_drewN | apply below_drew1) | exact HB.out))) : w.heap.size ≤ gb147)); clear HB; have HB := n0_; have BK147 := n1_; have GW147 := n2_; have GE147 := n3_; clear n0_ n1_ n2_ n3_; clear hb hbox hg) | ((with_reducible refine gate_dst (N := 3) rfl ?_); refine box_event ?hg (N := 3) ?hd (cs := #[.int .i64 a1_0, .int .i64 a1_1, .slice A1_2 l1_2.length c1_2]) (t := 73) ?hr ?_; (case hd => rfl); (case hg => rfl); (case hr => first | (go_simp; done) | (go_simp; rfl) | (go_simp; simp [IntKind.wrap_u8, IntKind.wrap_u32]; done)); intro gb148 hg w17 hbox hb; have n0_ := Aside0.mk (blk_below (g := gb147) (o := .cells #[.int .i64 a0_0, .int .i64 a0_1, .slice A0_2 l0_2.length c0_2] 73 (0, 0)) (by (with_reducible repeat (first | refine blk_drewN ?_ _ | refine blk_drew ?_ | refine blk_alloc ?_ _)); exact BK147.out) hb); have n1_ := Aside0.mk (below_step (by repeat (first | (with_reducible first | exact HB.out | apply below_alloc | apply pw_below_drewN | apply below_drew1 | refine below_set ?_ GE147.out) | exact HB.out)) hb); have n2_ := Aside0.mk (hbox); have n3_ := Aside0.mk ((by rw [hg]; exact (below_size (by repeat (first | (with_reducible first | exact HB.out | apply below_alloc | apply pw_below_drewN | apply below_drew1 | refine below_set ?_ GE147.out) | exact HB.out))) : w.heap.size ≤ gb148)); have n4_ := Aside0.mk ((by rw [hg]; exact (below_size (by repeat (first | (with_reducible first | exact HB.out | apply below_alloc | apply pw_below_drewN | apply below_drew1 | refine below_set ?_ GE147.out) | exact HB.out))) : w.heap.size ≤ gb148)); have n5_ := Aside0.mk ((by rw [hg]; exact Nat.ne_of_lt (blk_lt (g := gb147) (o := .cells #[.int .i64 a0_0, .int .i64 a0_1, .slice A0_2 l0_2.length c0_2] 73 (0, 0)) (by (with_reducible repeat (first | refine blk_drewN ?_ _ | refine blk_drew ?_ | refine blk_alloc ?_ _)); exact BK147.out)) : gb147 ≠ gb148)); have n6_ := Aside0.mk ((by rw [hg]; exact Nat.ne_of_gt (blk_lt (g := gb147) (o := .cells #[.int .i64 a0_0, .int .i64 a0_1, .slice A0_2 l0_2.length c0_2] 73 (0, 0)) (by (with_reducible repeat (first | refine blk_drewN ?_ _ | refine blk_drew ?_ | refine blk_alloc ?_ _)); exact BK147.out)) : gb148 ≠ gb147)); clear BK147; clear HB; have BK147 := n0_; have HB := n1_; have BK148 := n2_; have GW148 := n3_; have GE148 := n4_; have NB147_148 := n5_; have NB148_147 := n6_; clear n0_ n1_ n2_ n3_ n4_ n5_ n6_; clear hb hbox hg; have hnb18 := NB147_148.out; have hnc18 := NB148_147.out; have hcz19_0 : w17.cell? ⟨gb147, 0, none⟩ = some (.int .i64 a0_0) := (blk_cell BK147.out 0).trans rfl; have hcz19_1 : w17.cell? ⟨gb147, 1, none⟩ = some (.int .i64 a0_1) := (blk_cell BK147.out 1).trans rfl; have hcz19_2 : w17.cell? ⟨gb147, 2, none⟩ = some (.slice A0_2 l0_2.length c0_2) := (blk_cell BK147.out 2).trans rfl; have hfz19_0 := blk_frozen BK147.out 0; have hfz19_1 := blk_frozen BK147.out 1; have hfz19_2 := blk_frozen BK147.out 2; have hcz20_0 : w17.cell? ⟨gb148, 0, none⟩ = some (.int .i64 a1_0) := (blk_cell BK148.out 0).trans rfl; have hcz20_1 : w17.cell? ⟨gb148, 1, none⟩ = some (.int .i64 a1_1) := (blk_cell BK148.out 1).trans rfl; have hcz20_2 : w17.cell? ⟨gb148, 2, none⟩ = some (.slice A1_2 l1_2.length c1_2) := (blk_cell BK148.out 2).trans rfl; have hfz20_0 := blk_frozen BK148.out 0; have hfz20_1 := blk_frozen BK148.out 1; have hfz20_2 := blk_frozen BK148.out 2))
  go_ret
  exact ⟨by first | rfl | (simp [errW_none, errW_some] <;> rfl) | (simp [*, errW_none, errW_some] <;> rfl), by repeat (first | (with_reducible first | exact HB.out | apply below_alloc | apply pw_below_drewN | apply below_drew1 | refine below_set ?_ GE147.out | refine below_set ?_ GE148.out) | exact HB.out)⟩
 rw [if_pos c3] at H
 have c3b0 : (a0_0 == a1_0) = true := beq_iff_eq.mpr c3
 have c3b1 : (a0_0 != a1_0) = false := bne_eq_false_iff_eq.mpr c3
 clear c3
 by_cases c4 : a0_1 = a1_1
 rotate_left
 ·rw [if_neg c4] at H
  have c4b0 : (a0_1 == a1_1) = false := beq_eq_false_iff_ne.mpr c4
  have c4b1 : (a0_1 != a1_1) = true := bne_iff_ne.mpr c4
  obtain rfl := Option.some.inj H
  go_enter Try.func58, Try.ntmps58
  go_wp2_with (first | ((with_reducible refine gate_dst (N := 2) rfl ?_); refine box_event ?hg (N := 2) ?hd (cs := #[.int .i64 a0_0, .int .i64 a0_1, .slice A0_2 l0_2.length c0_2]) (t := 73) ?hr ?_; (case hd => rfl); (case hg => rfl); (case hr => first | (go_simp; done) | (go_simp; rfl) | (go_simp; simp [IntKind.wrap_u8, IntKind.wrap_u32]; done)); intro gb147 hg w11 hbox hb; have n0_ := Aside0.mk (below_step (by repeat (first | (with_reducible first | exact HB.out | apply below_alloc | apply pw_below_drewN | apply below_drew1) | exact HB.out)) hb); have n1_ := Aside0.mk (hbox); have n2_ := Aside0.mk ((by rw [hg]; exact (below_size (by repeat (first | (with_reducible first | exact HB.out | apply below_alloc | apply pw_below_drewN | apply below_drew1) | exact HB.out))) : w.heap.size ≤ gb147)); have n3_ := Aside0.mk ((by rw [hg]; exact (below_size (by repeat (first | (with_reducible first | exact HB.out | apply below_alloc | apply pw_below_drewN | apply below_drew1) | exact HB.out))) : w.heap.size ≤ gb147)); clear HB; have HB := n0_; have BK147 := n1_; have GW147 := n2_; have GE147 := n3_; clear n0_ n1_ n2_ n3_; clear hb hbox hg) | ((with_reducible refine gate_dst (N := 3) rfl ?_); refine box_event ?hg (N := 3) ?hd (cs := #[.int .i64 a1_0, .int .i64 a1_1, .slice A1_2 l1_2.length c1_2]) (t := 73) ?hr ?_; (case hd => rfl); (case hg => rfl); (case hr => first | (go_simp; done) | (go_simp; rfl) | (go_simp; simp [IntKind.wrap_u8, IntKind.wrap_u32]; done)); intro gb148 hg w12 hbox hb; have n0_ := Aside0.mk (blk_below (g := gb147) (o := .cells #[.int .i64 a0_0, .int .i64 a0_1, .slice A0_2 l0_2.length c0_2] 73 (0, 0)) (by (with_reducible repeat (first | refine blk_drewN ?_ _ | refine blk_drew ?_ | refine blk_alloc ?_ _)); exact BK147.out) hb); have n1_ := Aside0.mk (below_step (by repeat (first | (with_reducible first | exact HB.out | apply below_alloc | apply pw_below_drewN | apply below_drew1 | refine below_set ?_ GE147.out) | exact HB.out)) hb); have n2_ := Aside0.mk (hbox); have n3_ := Aside0.mk ((by rw [hg]; exact (below_size (by repeat (first | (with_reducible first | exact HB.out | apply below_alloc | apply pw_below_drewN | apply below_drew1 | refine below_set ?_ GE147.out) | exact HB.out))) : w.heap.size ≤ gb148)); have n4_ := Aside0.mk ((by rw [hg]; exact (below_size (by repeat (first | (with_reducible first | exact HB.out | apply below_alloc | apply pw_below_drewN | apply below_drew1 | refine below_set ?_ GE147.out) | exact HB.out))) : w.heap.size ≤ gb148)); have n5_ := Aside0.mk ((by rw [hg]; exact Nat.ne_of_lt (blk_lt (g := gb147) (o := .cells #[.int .i64 a0_0, .int .i64 a0_1, .slice A0_2 l0_2.length c0_2] 73 (0, 0)) (by (with_reducible repeat (first | refine blk_drewN ?_ _ | refine blk_drew ?_ | refine blk_alloc ?_ _)); exact BK147.out)) : gb147 ≠ gb148)); have n6_ := Aside0.mk ((by rw [hg]; exact Nat.ne_of_gt (blk_lt (g := gb147) (o := .cells #[.int .i64 a0_0, .int .i64 a0_1, .slice A0_2 l0_2.length c0_2] 73 (0, 0)) (by (with_reducible repeat (first | refine blk_drewN ?_ _ | refine blk_drew ?_ | refine blk_alloc ?_ _)); exact BK147.out)) : gb148 ≠ gb147)); clear BK147; clear HB; have BK147 := n0_; have HB := n1_; have BK148 := n2_; have GW148 := n3_; have GE148 := n4_; have NB147_148 := n5_; have NB148_147 := n6_; clear n0_ n1_ n2_ n3_ n4_ n5_ n6_; clear hb hbox hg; have hnb13 := NB147_148.out; have hnc13 := NB148_147.out; have hcz14_0 : w12.cell? ⟨gb147, 0, none⟩ = some (.int .i64 a0_0) := (blk_cell BK147.out 0).trans rfl; have hcz14_1 : w12.cell? ⟨gb147, 1, none⟩ = some (.int .i64 a0_1) := (blk_cell BK147.out 1).trans rfl; have hcz14_2 : w12.cell? ⟨gb147, 2, none⟩ = some (.slice A0_2 l0_2.length c0_2) := (blk_cell BK147.out 2).trans rfl; have hfz14_0 := blk_frozen BK147.out 0; have hfz14_1 := blk_frozen BK147.out 1; have hfz14_2 := blk_frozen BK147.out 2; have hcz15_0 : w12.cell? ⟨gb148, 0, none⟩ = some (.int .i64 a1_0) := (blk_cell BK148.out 0).trans rfl; have hcz15_1 : w12.cell? ⟨gb148, 1, none⟩ = some (.int .i64 a1_1) := (blk_cell BK148.out 1).trans rfl; have hcz15_2 : w12.cell? ⟨gb148, 2, none⟩ = some (.slice A1_2 l1_2.length c1_2) := (blk_cell BK148.out 2).trans rfl; have hfz15_0 := blk_frozen BK148.out 0; have hfz15_1 := blk_frozen BK148.out 1; have hfz15_2 := blk_frozen BK148.out 2))
  go_ret
  exact ⟨by first | rfl | (simp [errW_none, errW_some] <;> rfl) | (simp [*, errW_none, errW_some] <;> rfl), by repeat (first | (with_reducible first | exact HB.out | apply below_alloc | apply pw_below_drewN | apply below_drew1 | refine below_set ?_ GE147.out | refine below_set ?_ GE148.out) | exact HB.out)⟩
 rw [if_pos c4] at H
 have c4b0 : (a0_1 == a1_1) = true := beq_iff_eq.mpr c4
 have c4b1 : (a0_1 != a1_1) = false := bne_eq_false_iff_eq.mpr c4
 clear c4
 replace H := Option.bind_eq_some_iff.mp H
 obtain ⟨t149, A50, H⟩ := H
 replace H : (some t149) = some r := H
 have A5 := Aside0.mk A50
 clear A50
 obtain rfl := Option.some.inj H
 go_enter Try.func58, Try.ntmps58
 go_wp2_with (first | ((with_reducible refine gate_dst (N := 2) rfl ?_); refine box_event ?hg (N := 2) ?hd (cs := #[.int .i64 a0_0, .int .i64 a0_1, .slice A0_2 l0_2.length c0_2]) (t := 73) ?hr ?_; (case hd => rfl); (case hg => rfl); (case hr => first | (go_simp; done) | (go_simp; rfl) | (go_simp; simp [IntKind.wrap_u8, IntKind.wrap_u32]; done)); intro gb147 hg w6 hbox hb; have n0_ := Aside0.mk (below_step (by repeat (first | (with_reducible first | exact HB.out | apply below_alloc | apply pw_below_drewN | apply below_drew1) | exact HB.out)) hb); have n1_ := Aside0.mk (hbox); have n2_ := Aside0.mk ((by rw [hg]; exact (below_size (by repeat (first | (with_reducible first | exact HB.out | apply below_alloc | apply pw_below_drewN | apply below_drew1) | exact HB.out))) : w.heap.size ≤ gb147)); have n3_ := Aside0.mk ((by rw [hg]; exact (below_size (by repeat (first | (with_reducible first | exact HB.out | apply below_alloc | apply pw_below_drewN | apply below_drew1) | exact HB.out))) : w.heap.size ≤ gb147)); clear HB; have HB := n0_; have BK147 := n1_; have GW147 := n2_; have GE147 := n3_; clear n0_ n1_ n2_ n3_; clear hb hbox hg) | ((with_reducible refine gate_dst (N := 3) rfl ?_); refine box_event ?hg (N := 3) ?hd (cs := #[.int .i64 a1_0, .int .i64 a1_1, .slice A1_2 l1_2.length c1_2]) (t := 73) ?hr ?_; (case hd => rfl); (case hg => rfl); (case hr => first | (go_simp; done) | (go_simp; rfl) | (go_simp; simp [IntKind.wrap_u8, IntKind.wrap_u32]; done)); intro gb148 hg w7 hbox hb; have n0_ := Aside0.mk (blk_below (g := gb147) (o := .cells #[.int .i64 a0_0, .int .i64 a0_1, .slice A0_2 l0_2.length c0_2] 73 (0, 0)) (by (with_reducible repeat (first | refine blk_drewN ?_ _ | refine blk_drew ?_ | refine blk_alloc ?_ _)); exact BK147.out) hb); have n1_ := Aside0.mk (below_step (by repeat (first | (with_reducible first | exact HB.out | apply below_alloc | apply pw_below_drewN | apply below_drew1 | refine below_set ?_ GE147.out) | exact HB.out)) hb); have n2_ := Aside0.mk (hbox); have n3_ := Aside0.mk ((by rw [hg]; exact (below_size (by repeat (first | (with_reducible first | exact HB.out | apply below_alloc | apply pw_below_drewN | apply below_drew1 | refine below_set ?_ GE147.out) | exact HB.out))) : w.heap.size ≤ gb148)); have n4_ := Aside0.mk ((by rw [hg]; exact (below_size (by repeat (first | (with_reducible first | exact HB.out | apply below_alloc | apply pw_below_drewN | apply below_drew1 | refine below_set ?_ GE147.out) | exact HB.out))) : w.heap.size ≤ gb148)); have n5_ := Aside0.mk ((by rw [hg]; exact Nat.ne_of_lt (blk_lt (g := gb147) (o := .cells #[.int .i64 a0_0, .int .i64 a0_1, .slice A0_2 l0_2.length c0_2] 73 (0, 0)) (by (with_reducible repeat (first | refine blk_drewN ?_ _ | refine blk_drew ?_ | refine blk_alloc ?_ _)); exact BK147.out)) : gb147 ≠ gb148)); have n6_ := Aside0.mk ((by rw [hg]; exact Nat.ne_of_gt (blk_lt (g := gb147) (o := .cells #[.int .i64 a0_0, .int .i64 a0_1, .slice A0_2 l0_2.length c0_2] 73 (0, 0)) (by (with_reducible repeat (first | refine blk_drewN ?_ _ | refine blk_drew ?_ | refine blk_alloc ?_ _)); exact BK147.out)) : gb148 ≠ gb147)); clear BK147; clear HB; have BK147 := n0_; have HB := n1_; have BK148 := n2_; have GW148 := n3_; have GE148 := n4_; have NB147_148 := n5_; have NB148_147 := n6_; clear n0_ n1_ n2_ n3_ n4_ n5_ n6_; clear hb hbox hg; have hnb8 := NB147_148.out; have hnc8 := NB148_147.out; have hcz9_0 : w7.cell? ⟨gb147, 0, none⟩ = some (.int .i64 a0_0) := (blk_cell BK147.out 0).trans rfl; have hcz9_1 : w7.cell? ⟨gb147, 1, none⟩ = some (.int .i64 a0_1) := (blk_cell BK147.out 1).trans rfl; have hcz9_2 : w7.cell? ⟨gb147, 2, none⟩ = some (.slice A0_2 l0_2.length c0_2) := (blk_cell BK147.out 2).trans rfl; have hfz9_0 := blk_frozen BK147.out 0; have hfz9_1 := blk_frozen BK147.out 1; have hfz9_2 := blk_frozen BK147.out 2; have hcz10_0 : w7.cell? ⟨gb148, 0, none⟩ = some (.int .i64 a1_0) := (blk_cell BK148.out 0).trans rfl; have hcz10_1 : w7.cell? ⟨gb148, 1, none⟩ = some (.int .i64 a1_1) := (blk_cell BK148.out 1).trans rfl; have hcz10_2 : w7.cell? ⟨gb148, 2, none⟩ = some (.slice A1_2 l1_2.length c1_2) := (blk_cell BK148.out 2).trans rfl; have hfz10_0 := blk_frozen BK148.out 0; have hfz10_1 := blk_frozen BK148.out 1; have hfz10_2 := blk_frozen BK148.out 2) | (go_at_call 59; (with_reducible refine (bytes_Equal.calls _ _ l0_2 _ _ l1_2 t149 _ ?side1 ?side2 ?side3 ?side4 A5.out).mono ?_); (case side1 => repeat (first | exact (Kd.C_below HR0_2.out HB.out) | (with_reducible refine Kd.C_alloc ?_ _) | (with_reducible refine Kd.C_drewN ?_ _) | (with_reducible refine Kd.C_drew ?_))); (case side2 => exact HC0_2.out); (case side3 => repeat (first | exact (Kd.C_below HR1_2.out HB.out) | (with_reducible refine Kd.C_alloc ?_ _) | (with_reducible refine Kd.C_drewN ?_ _) | (with_reducible refine Kd.C_drew ?_))); (case side4 => exact HC1_2.out); rintro e w' ⟨rfl, ⟨nd, rfl⟩⟩))
 go_ret
 exact ⟨by first | rfl | (simp [errW_none, errW_some] <;> rfl) | (simp [*, errW_none, errW_some] <;> rfl), by repeat (first | (with_reducible first | exact HB.out | apply below_alloc | apply pw_below_drewN | apply below_drew1 | refine below_set ?_ GE147.out | refine below_set ?_ GE148.out) | exact HB.out)⟩

/-! ### attr_Same: function 35 -/
-- FN rounds=0 making=1
-- IMPORT Derived.Test.YtjdebhkdbdbepaaHelp
def rawEq (x y : S73) : Bool := x.f0 == y.f0 && (x.f1 == y.f1 && (strOfNums x.f2).toList == (strOfNums y.f2).toList)
theorem raw_1 (x y : S73) (A1 : Option Addr) (c1 : Nat) (A2 : Option Addr) (c2 : Nat) (w : World) (hr1 : Kd.C (Kd.int .u8) w A1 x.f2.length x.f2) (hc1 : x.f2.length ≤ c1) (hr2 : Kd.C (Kd.int .u8) w A2 y.f2.length y.f2) (hc2 : y.f2.length ≤ c2) :
    Calls Try.prog 58 #[.agg #[.int .i64 x.f0, .int .i64 x.f1, .slice A1 x.f2.length c1], .agg #[.int .i64 y.f0, .int .i64 y.f1, .slice A2 y.f2.length c2]] w fun e w' => e = .returned (.bool (rawEq x y)) ∧ Below w.heap.size w w' := by
  refine attr_Same_1.calls x.f0 x.f1 A1 c1 x.f2 y.f0 y.f1 A2 c2 y.f2 (rawEq x y) w hr1 hc1 hr2 hc2 ?_
  unfold attr_Same_1.f rawEq bytes_Equal.f
  by_cases h0 : x.f0 = y.f0
  · rw [if_pos h0, beq_iff_eq.2 h0, Bool.true_and]
    by_cases h1 : x.f1 = y.f1
    · rw [if_pos h1, beq_iff_eq.2 h1, Bool.true_and]
      rfl
    · rw [if_neg h1, beq_eq_false_iff_ne.2 h1, Bool.false_and]
  · rw [if_neg h0, beq_eq_false_iff_ne.2 h0, Bool.false_and]
set_option maxHeartbeats 4000000 in
set_option maxRecDepth 100000 in
theorem eqFunc_raw (A0 : Option Addr) (c0 : Nat) (l0 : List S73) (A1 : Option Addr) (c1 : Nat) (l1 : List S73) (w : World) (hr0 : Kd.C k73 w A0 l0.length l0) (hc0 : l0.length ≤ c0) (hr1 : Kd.C k73 w A1 l1.length l1) (hc1 : l1.length ≤ c1) :
    Calls Try.prog 57 #[.slice A0 l0.length c0, .slice A1 l1.length c1, .func (.func 58) #[] #[]] w fun e w' => e = .returned (.bool (all2 rawEq l0 l1)) ∧ Below w.heap.size w w' := by
  have hu73 := Try.underlying73
  have HM := Aside0.mk (Kd.C_max hr0)
  by_cases hlen : l0.length = l1.length
  · have d0 : ((l0.length : Int) != (l1.length : Int)) = false := by simp [hlen]
    have d1 : (l0.length != l1.length) = false := by simp [hlen]
    obtain ⟨r, hr⟩ : ∃ r, r = all2 rawEq l0 l1 := ⟨_, rfl⟩
    have HR := Aside0.mk (show all2 rawEq (l0.drop 0) (l1.drop 0) = r from hr.symm)
    rw [← hr]
    have HR0 := Aside0.mk hr0
    have HR1 := Aside0.mk hr1
    have HC0 := Aside0.mk hc0
    have HC1 := Aside0.mk hc1
    have HLE := Aside0.mk hlen
    clear hr0 hr1 hc0 hc1 hlen hr
    go_enter Try.func57, Try.ntmps57
    go_wp2
    go_loopg [17] (l0.length + 1) (fun kq v17 wr => ∃ x : Int, v17 = .int .i64 x ∧ Aside0 (0 ≤ x ∧ x + kq = l0.length + 1 ∧ all2 rawEq (l0.drop x.toNat) (l1.drop x.toNat) = r) ∧ Aside0 (Below w.heap.size w wr))
    case atStart => exact ⟨0, rfl, ⟨by omega, by omega, HR.out⟩, ⟨Below.refl _ _⟩⟩
    case round =>
      obtain ⟨x, rfl, HF, HB⟩ := hrel
      by_cases hlt : x < (l0.length : Int)
      · have q1 := hlt
        have q2 : x < (l1.length : Int) := by have := HLE.out; omega
        have p1 := HF.out.1
        have c4b0 : decide (x < (l0.length : Int)) = true := decide_eq_true hlt
        have HL := Aside0.mk hlt
        have HST := Aside0.mk (all2_step rawEq z73 z73 l0 l1 x p1 q1 q2)
        clear hlt
        obtain ⟨ad0, B0, b0, e0, h00, h10, h20, hn0, hq0⟩ := at_T73 (Kd.C_below HR0.out HB.out) x p1 q1
        obtain ⟨ad1, B1, b1, e1, h01, h11, h21, hn1, hq1⟩ := at_T73 (Kd.C_alloc (Kd.C_below HR1.out HB.out) (.cells #[.int .i64 (rd_T73 l0 x).f0, .int .i64 (rd_T73 l0 x).f1, .slice B0 (rd_T73 l0 x).f2.length b0] 73)) x p1 q2
        cases e0
        cases e1
        have HX := Aside0.mk (fun W (hW : Below (wr.alloc (.cells #[.int .i64 (rd_T73 l0 x).f0, .int .i64 (rd_T73 l0 x).f1, .slice B0 (rd_T73 l0 x).f2.length b0] 73)).heap.size (wr.alloc (.cells #[.int .i64 (rd_T73 l0 x).f0, .int .i64 (rd_T73 l0 x).f1, .slice B0 (rd_T73 l0 x).f2.length b0] 73)) W) => raw_1 (rd_T73 l0 x) (rd_T73 l1 x) _ _ _ _ W (Kd.C_below (Kd.C_alloc hq0 _) hW) hn0 (Kd.C_below hq1 hW) hn1)
        have HST2 : Aside0 (all2 rawEq (l0.drop x.toNat) (l1.drop x.toNat) = (rawEq (rd_T73 l0 x) (rd_T73 l1 x) && all2 rawEq (l0.drop (x + 1).toNat) (l1.drop (x + 1).toNat))) := HST
        clear hq0 hq1 hn0 hn1 HST
        replace p1 := eq_true p1
        replace q1 := eq_true q1
        replace q2 := eq_true q2
        rcases hqx : rawEq (rd_T73 l0 x) (rd_T73 l1 x) with _ | _
        · rw [hqx] at HX HST2
          clear hqx
          go_wp2_with fail
          refine (HX.out _ (by repeat (first | exact Below.refl _ _ | apply below_alloc | apply pw_below_drewN | apply below_drew1))).mono ?_
          rintro e w1 ⟨rfl, hb1⟩
          have HB1 := Aside0.mk hb1
          clear hb1 HX
          go_wp2
          go_ret
          exact ⟨by rw [← HF.out.2.2, HST2.out]; rfl, HB.out.trans (((below_alloc (below_alloc (Below.refl _ _) _) _).trans (HB1.out.mono (by simp; omega))).mono HB.out.size)⟩
        · rw [hqx] at HX HST2
          clear hqx
          cases gk with
          | zero => exact absurd HF.out.2.1 (by have := HL.out; omega)
          | succ k1 =>
          go_wp2_with fail
          refine (HX.out _ (by repeat (first | exact Below.refl _ _ | apply below_alloc | apply pw_below_drewN | apply below_drew1))).mono ?_
          rintro e w1 ⟨rfl, hb1⟩
          have HB1 := Aside0.mk hb1
          clear hb1 HX
          go_wp2
          go_roundg k1
          case measure => omega
          case rel =>
            refine ⟨x + 1, (by have hw : wrap64 (x + 1) = x + 1 := (by have := HM.out; have := HL.out; have := HF.out.1; unfold wrap64; omega); first | rfl | (simp [hw]; done)), ⟨by have := HF.out.1; omega, by have := HF.out.2.1; omega, by rw [← HF.out.2.2, HST2.out]; rfl⟩, ⟨HB.out.trans (((below_alloc (below_alloc (Below.refl _ _) _) _).trans (HB1.out.mono (by simp; omega))).mono HB.out.size)⟩⟩
      · have c4b0 : decide (x < (l0.length : Int)) = false := decide_eq_false hlt
        have HL := Aside0.mk hlt
        clear hlt
        go_wp2
        go_ret
        exact ⟨by rw [← HF.out.2.2, List.drop_of_length_le (by have := HL.out; omega), List.drop_of_length_le (by have := HL.out; have := HLE.out; omega)]; rfl, HB.out⟩
  · have d0 : ((l0.length : Int) != (l1.length : Int)) = true := by simp; omega
    have d1 : (l0.length != l1.length) = true := by simpa using hlen
    have HE := Aside0.mk (all2_ne rawEq l0 l1 hlen)
    clear hr0 hr1 hlen
    go_enter Try.func57, Try.ntmps57
    go_wp2
    go_ret
    exact ⟨by rw [HE.out]; rfl, Below.refl _ _⟩
theorem equal_u0 (l m : List Int) (hl : l.length ≤ 9223372036854775807) (he : l.length = m.length) (d : Nat) : ∀ (k i : Nat), i + d = l.length →
    slices_Equal_uint32_uint32.l0 (k + d + 1) l m (l.length : Int) (i : Int) = some (l.drop i == m.drop i) := by
  induction d with
  | zero =>
    intro k i hi
    conv => lhs; unfold slices_Equal_uint32_uint32.l0
    rw [if_neg (by omega), List.drop_of_length_le (by omega), List.drop_of_length_le (by omega)]
    rfl
  | succ d ih =>
    intro k i hi
    have hlt : i < l.length := by omega
    have hlt2 : i < m.length := by omega
    rw [show k + (d + 1) + 1 = (k + d + 1) + 1 by omega]
    conv => lhs; unfold slices_Equal_uint32_uint32.l0
    have hr : ∀ (q : List Int) (h : i < q.length), rd q (i : Int) = q[i] := by
      intro q h
      unfold rd
      rw [List.getD_eq_getElem?_getD, Int.toNat_natCast, List.getElem?_eq_getElem h]; rfl
    rw [if_pos (by omega), if_pos (by omega), if_pos (by omega), if_pos (by omega), hr l hlt, hr m hlt2, List.drop_eq_getElem_cons hlt, List.drop_eq_getElem_cons hlt2, List.cons_beq_cons]
    by_cases hx : l[i] = m[i]
    · rw [if_pos hx, show wrap64 ((i : Int) + 1) = ((i + 1 : Nat) : Int) by unfold wrap64; omega, ih k (i + 1) (by omega), hx, beq_self_eq_true, Bool.true_and]
    · rw [if_neg hx, beq_eq_false_iff_ne.2 hx, Bool.false_and]
theorem equal_u (l m : List Int) (hl : l.length ≤ 9223372036854775807) : slices_Equal_uint32_uint32.f (l.length + 1) l m = some (l == m) := by
  unfold slices_Equal_uint32_uint32.f
  by_cases he : l.length = m.length
  · rw [if_pos (by omega)]
    have := equal_u0 l m hl he l.length 0 0 (by omega)
    rw [show 0 + l.length + 1 = l.length + 1 by omega] at this
    exact this
  · rw [if_neg (by omega), beq_eq_false_iff_ne.2 (fun e => he (by rw [e]))]
def attr_Same.f (a0_0 : Int) (l0_1 : List (S69)) (a0_2 : Int) (a0_3 : Int) (a0_4 : Int) (l0_5 : List Int) (l0_6 : List (S73)) (a1_0 : Int) (l1_1 : List (S69)) (a1_2 : Int) (a1_3 : Int) (a1_4 : Int) (l1_5 : List Int) (l1_6 : List (S73)) : Option Bool := some (a0_0 == a1_0 && (a0_2 == a1_2 && (a0_3 == a1_3 && (a0_4 == a1_4 && (all2 segEq l0_1 l1_1 && (l0_5 == l1_5 && all2 rawEq l0_6 l1_6))))))
set_option maxHeartbeats 8000000 in
set_option maxRecDepth 100000 in
theorem attr_Same.calls (a0_0 : Int) (A0_1 : Option Addr) (c0_1 : Nat) (l0_1 : List (S69)) (a0_2 : Int) (a0_3 : Int) (a0_4 : Int) (A0_5 : Option Addr) (c0_5 : Nat) (l0_5 : List Int) (A0_6 : Option Addr) (c0_6 : Nat) (l0_6 : List (S73)) (a1_0 : Int) (A1_1 : Option Addr) (c1_1 : Nat) (l1_1 : List (S69)) (a1_2 : Int) (a1_3 : Int) (a1_4 : Int) (A1_5 : Option Addr) (c1_5 : Nat) (l1_5 : List Int) (A1_6 : Option Addr) (c1_6 : Nat) (l1_6 : List (S73)) (r : Bool) (w : World) (hr0_1 : Kd.C k69 w A0_1 l0_1.length l0_1) (hc0_1 : l0_1.length ≤ c0_1) (hr0_5 : Kd.C (Kd.int .u32) w A0_5 l0_5.length l0_5) (hc0_5 : l0_5.length ≤ c0_5) (hr0_6 : Kd.C k73 w A0_6 l0_6.length l0_6) (hc0_6 : l0_6.length ≤ c0_6) (hr1_1 : Kd.C k69 w A1_1 l1_1.length l1_1) (hc1_1 : l1_1.length ≤ c1_1) (hr1_5 : Kd.C (Kd.int .u32) w A1_5 l1_5.length l1_5) (hc1_5 : l1_5.length ≤ c1_5) (hr1_6 : Kd.C k73 w A1_6 l1_6.length l1_6) (hc1_6 : l1_6.length ≤ c1_6) (h : attr_Same.f a0_0 l0_1 a0_2 a0_3 a0_4 l0_5 l0_6 a1_0 l1_1 a1_2 a1_3 a1_4 l1_5 l1_6 = some r) :
    Calls Try.prog 35 #[.agg #[.int .i64 a0_0, .slice A0_1 l0_1.length c0_1, .int .u32 a0_2, .int .i64 a0_3, .int .i64 a0_4, .slice A0_5 l0_5.length c0_5, .slice A0_6 l0_6.length c0_6], .agg #[.int .i64 a1_0, .slice A1_1 l1_1.length c1_1, .int .u32 a1_2, .int .i64 a1_3, .int .i64 a1_4, .slice A1_5 l1_5.length c1_5, .slice A1_6 l1_6.length c1_6]] w fun e w' => e = .returned (.bool r) ∧ Below w.heap.size w w' := by
  have hu34 := Try.underlying34
  have hx0 : ((w.alloc (.cells #[.int .i64 a0_0, .slice A0_1 l0_1.length c0_1, .int .u32 a0_2, .int .i64 a0_3, .int .i64 a0_4, .slice A0_5 l0_5.length c0_5, .slice A0_6 l0_6.length c0_6] 34)).alloc (.cells #[.int .i64 a1_0, .slice A1_1 l1_1.length c1_1, .int .u32 a1_2, .int .i64 a1_3, .int .i64 a1_4, .slice A1_5 l1_5.length c1_5, .slice A1_6 l1_6.length c1_6] 34)).heap[w.heap.size]? = some (.cells #[.int .i64 a0_0, .slice A0_1 l0_1.length c0_1, .int .u32 a0_2, .int .i64 a0_3, .int .i64 a0_4, .slice A0_5 l0_5.length c0_5, .slice A0_6 l0_6.length c0_6] 34) := ((below_alloc (Below.refl _ _) _).block _ (by simp)).trans (heap_alloc_new w (.cells #[.int .i64 a0_0, .slice A0_1 l0_1.length c0_1, .int .u32 a0_2, .int .i64 a0_3, .int .i64 a0_4, .slice A0_5 l0_5.length c0_5, .slice A0_6 l0_6.length c0_6] 34))
  have hx1 : ((w.alloc (.cells #[.int .i64 a0_0, .slice A0_1 l0_1.length c0_1, .int .u32 a0_2, .int .i64 a0_3, .int .i64 a0_4, .slice A0_5 l0_5.length c0_5, .slice A0_6 l0_6.length c0_6] 34)).alloc (.cells #[.int .i64 a1_0, .slice A1_1 l1_1.length c1_1, .int .u32 a1_2, .int .i64 a1_3, .int .i64 a1_4, .slice A1_5 l1_5.length c1_5, .slice A1_6 l1_6.length c1_6] 34)).heap[w.heap.size + 1]? = some (.cells #[.int .i64 a1_0, .slice A1_1 l1_1.length c1_1, .int .u32 a1_2, .int .i64 a1_3, .int .i64 a1_4, .slice A1_5 l1_5.length c1_5, .slice A1_6 l1_6.length c1_6] 34) := by
    have h := heap_alloc_new (w.alloc (.cells #[.int .i64 a0_0, .slice A0_1 l0_1.length c0_1, .int .u32 a0_2, .int .i64 a0_3, .int .i64 a0_4, .slice A0_5 l0_5.length c0_5, .slice A0_6 l0_6.length c0_6] 34)) (.cells #[.int .i64 a1_0, .slice A1_1 l1_1.length c1_1, .int .u32 a1_2, .int .i64 a1_3, .int .i64 a1_4, .slice A1_5 l1_5.length c1_5, .slice A1_6 l1_6.length c1_6] 34)
    rwa [Go.Proofs.Ytjdebhkdbdbepaa.Help.alloc_size] at h
  have HX0 := Aside0.mk hx0
  have HX1 := Aside0.mk hx1
  have HB0 := Aside0.mk (below_alloc (below_alloc (Below.refl w.heap.size w) (.cells #[.int .i64 a0_0, .slice A0_1 l0_1.length c0_1, .int .u32 a0_2, .int .i64 a0_3, .int .i64 a0_4, .slice A0_5 l0_5.length c0_5, .slice A0_6 l0_6.length c0_6] 34)) (.cells #[.int .i64 a1_0, .slice A1_1 l1_1.length c1_1, .int .u32 a1_2, .int .i64 a1_3, .int .i64 a1_4, .slice A1_5 l1_5.length c1_5, .slice A1_6 l1_6.length c1_6] 34))
  have HP := Aside0.mk (fun q (hq : all2 segEq l0_1 l1_1 = q) => path_Same.calls A0_1 c0_1 l0_1 A1_1 c1_1 l1_1 q ((w.alloc (.cells #[.int .i64 a0_0, .slice A0_1 l0_1.length c0_1, .int .u32 a0_2, .int .i64 a0_3, .int .i64 a0_4, .slice A0_5 l0_5.length c0_5, .slice A0_6 l0_6.length c0_6] 34)).alloc (.cells #[.int .i64 a1_0, .slice A1_1 l1_1.length c1_1, .int .u32 a1_2, .int .i64 a1_3, .int .i64 a1_4, .slice A1_5 l1_5.length c1_5, .slice A1_6 l1_6.length c1_6] 34)) (Kd.C_alloc (Kd.C_alloc hr0_1 _) _) hc0_1 (Kd.C_alloc (Kd.C_alloc hr1_1 _) _) hc1_1 (congrArg some hq))
  have HE := Aside0.mk (fun q (hq : (l0_5 == l1_5) = q) (W : World) (hW : Below w.heap.size w W) => slices_Equal_uint32_uint32.calls (l0_5.length + 1) A0_5 c0_5 l0_5 A1_5 c1_5 l1_5 q W (Kd.C_below hr0_5 hW) hc0_5 (Kd.C_below hr1_5 hW) hc1_5 ((equal_u l0_5 l1_5 (Kd.C_max hr0_5)).trans (congrArg some hq)))
  have HQ := Aside0.mk (fun q (hq : all2 rawEq l0_6 l1_6 = q) (W : World) (hW : Below w.heap.size w W) => hq ▸ eqFunc_raw A0_6 c0_6 l0_6 A1_6 c1_6 l1_6 W (Kd.C_below hr0_6 hW) hc0_6 (Kd.C_below hr1_6 hW) hc1_6)
  have H := Aside0.mk (show (a0_0 == a1_0 && (a0_2 == a1_2 && (a0_3 == a1_3 && (a0_4 == a1_4 && (all2 segEq l0_1 l1_1 && (l0_5 == l1_5 && all2 rawEq l0_6 l1_6)))))) = r from Option.some.inj h)
  clear hx0 hx1 hr0_1 hr0_5 hr0_6 hr1_1 hr1_5 hr1_6 hc0_1 hc0_5 hc0_6 hc1_1 hc1_5 hc1_6 h
  by_cases k0 : a0_0 = a1_0
  rotate_left
  · have d0 : (a0_0 != a1_0) = true := bne_iff_ne.2 k0
    have HR := Aside0.mk (show r = false by rw [← H.out, beq_eq_false_iff_ne.2 k0, Bool.false_and])
    clear k0
    go_enter Try.func35, Try.ntmps35
    go_wp2
    go_ret
    exact ⟨by rw [HR.out]; rfl, HB0.out⟩
  have d0 : (a0_0 != a1_0) = false := bne_eq_false_iff_eq.2 k0
  by_cases k1 : a0_2 = a1_2
  rotate_left
  · have d1 : (a0_2 != a1_2) = true := bne_iff_ne.2 k1
    have HR := Aside0.mk (show r = false by rw [← H.out, beq_iff_eq.2 k0, Bool.true_and, beq_eq_false_iff_ne.2 k1, Bool.false_and])
    clear k0 k1
    go_enter Try.func35, Try.ntmps35
    go_wp2
    go_ret
    exact ⟨by rw [HR.out]; rfl, HB0.out⟩
  have d1 : (a0_2 != a1_2) = false := bne_eq_false_iff_eq.2 k1
  by_cases k2 : a0_3 = a1_3
  rotate_left
  · have d2 : (a0_3 != a1_3) = true := bne_iff_ne.2 k2
    have HR := Aside0.mk (show r = false by rw [← H.out, beq_iff_eq.2 k0, Bool.true_and, beq_iff_eq.2 k1, Bool.true_and, beq_eq_false_iff_ne.2 k2, Bool.false_and])
    clear k0 k1 k2
    go_enter Try.func35, Try.ntmps35
    go_wp2
    go_ret
    exact ⟨by rw [HR.out]; rfl, HB0.out⟩
  have d2 : (a0_3 != a1_3) = false := bne_eq_false_iff_eq.2 k2
  by_cases k3 : a0_4 = a1_4
  rotate_left
  · have d3 : (a0_4 != a1_4) = true := bne_iff_ne.2 k3
    have HR := Aside0.mk (show r = false by rw [← H.out, beq_iff_eq.2 k0, Bool.true_and, beq_iff_eq.2 k1, Bool.true_and, beq_iff_eq.2 k2, Bool.true_and, beq_eq_false_iff_ne.2 k3, Bool.false_and])
    clear k0 k1 k2 k3
    go_enter Try.func35, Try.ntmps35
    go_wp2
    go_ret
    exact ⟨by rw [HR.out]; rfl, HB0.out⟩
  have d3 : (a0_4 != a1_4) = false := bne_eq_false_iff_eq.2 k3
  have HR := Aside0.mk (show (all2 segEq l0_1 l1_1 && (l0_5 == l1_5 && all2 rawEq l0_6 l1_6)) = r by rw [← H.out, beq_iff_eq.2 k0, Bool.true_and, beq_iff_eq.2 k1, Bool.true_and, beq_iff_eq.2 k2, Bool.true_and, beq_iff_eq.2 k3, Bool.true_and])
  clear k0 k1 k2 k3 H
  cases hP : all2 segEq l0_1 l1_1 with
  | false =>
    have HPq := Aside0.mk (HP.out _ hP)
    rw [hP] at HR
    clear hP
    go_enter Try.func35, Try.ntmps35
    go_wp2_with (go_at_call 55; refine HPq.out.mono ?_; rintro e w1 ⟨rfl, hb⟩; have HY0 := Aside0.mk ((hb.block _ (blk_lt HX0.out)).trans HX0.out); have HY1 := Aside0.mk ((hb.block _ (blk_lt HX1.out)).trans HX1.out); have HB1 := Aside0.mk (HB0.out.trans (hb.mono HB0.out.size)); have hz5 : w1.cell? ⟨w.heap.size, 5, none⟩ = some (.slice A0_5 l0_5.length c0_5) := (blk_cell HY0.out 5).trans rfl; have hz5b : w1.cell? ⟨w.heap.size + 1, 5, none⟩ = some (.slice A1_5 l1_5.length c1_5) := (blk_cell HY1.out 5).trans rfl; have hz6 : w1.cell? ⟨w.heap.size, 6, none⟩ = some (.slice A0_6 l0_6.length c0_6) := (blk_cell HY0.out 6).trans rfl; have hz6b : w1.cell? ⟨w.heap.size + 1, 6, none⟩ = some (.slice A1_6 l1_6.length c1_6) := (blk_cell HY1.out 6).trans rfl; clear hb)
    go_ret
    exact ⟨by rw [← HR.out]; rfl, HB1.out⟩
  | true =>
    have HPq := Aside0.mk (HP.out _ hP)
    rw [hP] at HR
    clear hP
    cases hE : (l0_5 == l1_5) with
    | false =>
      have HEq := Aside0.mk (HE.out _ hE)
      rw [hE] at HR
      clear hE
      go_enter Try.func35, Try.ntmps35
      go_wp2_with (first | (go_at_call 55; refine HPq.out.mono ?_; rintro e w1 ⟨rfl, hb⟩; have HY0 := Aside0.mk ((hb.block _ (blk_lt HX0.out)).trans HX0.out); have HY1 := Aside0.mk ((hb.block _ (blk_lt HX1.out)).trans HX1.out); have HB1 := Aside0.mk (HB0.out.trans (hb.mono HB0.out.size)); have hz5 : w1.cell? ⟨w.heap.size, 5, none⟩ = some (.slice A0_5 l0_5.length c0_5) := (blk_cell HY0.out 5).trans rfl; have hz5b : w1.cell? ⟨w.heap.size + 1, 5, none⟩ = some (.slice A1_5 l1_5.length c1_5) := (blk_cell HY1.out 5).trans rfl; have hz6 : w1.cell? ⟨w.heap.size, 6, none⟩ = some (.slice A0_6 l0_6.length c0_6) := (blk_cell HY0.out 6).trans rfl; have hz6b : w1.cell? ⟨w.heap.size + 1, 6, none⟩ = some (.slice A1_6 l1_6.length c1_6) := (blk_cell HY1.out 6).trans rfl; clear hb) | (go_at_call 56; refine (HEq.out _ HB1.out).mono ?_; rintro e w' ⟨rfl, ⟨nd, rfl⟩⟩))
      go_ret
      exact ⟨by rw [← HR.out]; rfl, pw_below_drewN HB1.out _⟩
    | true =>
      have HEq := Aside0.mk (HE.out _ hE)
      rw [hE] at HR
      clear hE
      have HR := Aside0.mk (show all2 rawEq l0_6 l1_6 = r by have := HR.out; simpa using this)
      have HQq := Aside0.mk (HQ.out r HR.out)
      go_enter Try.func35, Try.ntmps35
      go_wp2_with (first | (go_at_call 55; refine HPq.out.mono ?_; rintro e w1 ⟨rfl, hb⟩; have HY0 := Aside0.mk ((hb.block _ (blk_lt HX0.out)).trans HX0.out); have HY1 := Aside0.mk ((hb.block _ (blk_lt HX1.out)).trans HX1.out); have HB1 := Aside0.mk (HB0.out.trans (hb.mono HB0.out.size)); have hz5 : w1.cell? ⟨w.heap.size, 5, none⟩ = some (.slice A0_5 l0_5.length c0_5) := (blk_cell HY0.out 5).trans rfl; have hz5b : w1.cell? ⟨w.heap.size + 1, 5, none⟩ = some (.slice A1_5 l1_5.length c1_5) := (blk_cell HY1.out 5).trans rfl; have hz6 : w1.cell? ⟨w.heap.size, 6, none⟩ = some (.slice A0_6 l0_6.length c0_6) := (blk_cell HY0.out 6).trans rfl; have hz6b : w1.cell? ⟨w.heap.size + 1, 6, none⟩ = some (.slice A1_6 l1_6.length c1_6) := (blk_cell HY1.out 6).trans rfl; clear hb) | (go_at_call 56; refine (HEq.out _ HB1.out).mono ?_; rintro e w' ⟨rfl, ⟨nd, rfl⟩⟩) | (go_at_call 57; refine (HQq.out _ (pw_below_drewN HB1.out _)).mono ?_; rintro e w3 ⟨rfl, hb⟩; have HB3 := Aside0.mk ((pw_below_drewN HB1.out _).trans (hb.mono HB1.out.size)); clear hb))
      go_ret
      exact ⟨rfl, HB3.out⟩


end Go.Proofs.Ytjdebhkdbdbepaa.PExportGone
