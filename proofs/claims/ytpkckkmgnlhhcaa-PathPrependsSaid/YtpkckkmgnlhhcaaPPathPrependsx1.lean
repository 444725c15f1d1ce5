-- Lean text by a program of this repo (wip/tools/printx.py), out of Lean's own print of the translation
import Derived.Test.YtpkckkmgnlhhcaaHelp
import Derived.Test.YtpkckkmgnlhhcaaPPathPrependsx0
namespace Go.Proofs.Ytpkckkmgnlhhcaa.PPathPrepends
open Go.RowKit Go.Proofs.YtpkckkmgnlhhcaaW.PrintWords Go.Proofs.YtpkckkmgnlhhcaaW.PrintLast Go.Proofs.YtpkckkmgnlhhcaaW.PrintMore
attribute [local go_sem] max2_int min2_int max_two min_two max_three min_three max_four min_four   -- for this text's walks alone
set_option linter.unusedVariables false
set_option linter.unusedSimpArgs false

/-! ### interregnumlaw06_small: function 12 -/
def interregnumlaw06_small.l0 : Nat → List (S38) → Int → Int → Option (Bool)
  | 0, _, _, _ => none
  | k + 1, x0, x3, x4 => if x4 < (x0.length : Int) then (if x3 < 3000 then (if 0 ≤ x4 then (interregnumlaw06_small.l0 k x0 (wrap64 (x3 + (((rd_T38 x0 x4).f1).length : Int))) (wrap64 (x4 + 1))) else (none)) else (some (decide (x3 < 3000)))) else (some (decide (x3 < 3000)))
def interregnumlaw06_small.f (k : Nat) (l0 : List (S38)) : Option (Bool) := interregnumlaw06_small.l0 k l0 (l0.length : Int) 0
theorem interregnumlaw06_small.mono_l : ∀ k, (∀ y0 y1 y2, LeO (interregnumlaw06_small.l0 k y0 y1 y2) (interregnumlaw06_small.l0 (k + 1) y0 y1 y2))
  | 0 => fun _ _ _ r h => by simp [interregnumlaw06_small.l0] at h
  | k + 1 => by
    have ih0 := interregnumlaw06_small.mono_l k
    · intro y0 y1 y2
      unfold interregnumlaw06_small.l0
      repeat' first
      | (with_reducible exact ih0 _ _ _)
      | (with_reducible exact LeO.refl _)
      | (with_reducible exact LeO.none _)
      | (with_reducible refine LeO.ite ?_ ?_)
      | (with_reducible refine LeO.bind ?_ (fun _ => ?_))
      | exact ih0 _ _ _
      | exact LeO.none _
      | refine LeO.ite ?_ ?_
      | refine LeO.bind ?_ (fun _ => ?_)
theorem interregnumlaw06_small.mono : ∀ a0 k, LeO (interregnumlaw06_small.f k a0) (interregnumlaw06_small.f (k + 1) a0) := by
  intro a0 k
  have ih0 := interregnumlaw06_small.mono_l k
  unfold interregnumlaw06_small.f
  repeat' first
      | (with_reducible exact ih0 _ _ _)
      | (with_reducible exact LeO.refl _)
      | (with_reducible exact LeO.none _)
      | (with_reducible refine LeO.ite ?_ ?_)
      | (with_reducible refine LeO.bind ?_ (fun _ => ?_))
      | exact ih0 _ _ _
      | exact LeO.none _
      | refine LeO.ite ?_ ?_
      | refine LeO.bind ?_ (fun _ => ?_)
set_option maxHeartbeats 8000000 in
set_option maxRecDepth 100000 in
theorem interregnumlaw06_small.calls (k : Nat) (A0 : Option Addr) (c0 : Nat) (l0 : List (S38)) (r : Bool) (w : World) (hr0 : Kd.C k38 w A0 l0.length l0) (hc0 : l0.length ≤ c0) (h : interregnumlaw06_small.f k l0 = some r) :
    Calls Try.prog 12 #[.slice A0 l0.length c0] w fun e w' => e = .returned (.bool r) ∧ Drawn0 w w' := by
  have HR0 := Aside0.mk hr0
  have HC0 := Aside0.mk hc0
  clear hr0 hc0
  have H : (interregnumlaw06_small.l0 k l0 (l0.length : Int) 0) = some r := h
  clear h
  have H' := Aside0.mk H
  clear H
  go_enter Try.func12, Try.ntmps12
  go_wp2
  go_loopg [3, 4] k (fun kq v3 v4 w' => ∃ (x3_1 : Int) (x4_1 : Int), v3 = .int .i64 x3_1 ∧ v4 = .int .i64 x4_1 ∧ Aside0 (interregnumlaw06_small.l0 kq l0 x3_1 x4_1 = some r) ∧ Aside0 (kq ≤ k) ∧ Drawn0 w w')
  case atStart => exact ⟨((l0.length : Int)), (0), (by first | rfl | (simp; done) | (simp [*]; done)), (by first | rfl | (simp; done) | (simp [*]; done)), H', ⟨Nat.le_refl _⟩, by repeat (first | exact Drawn0.refl _ | apply Drawn0.step)⟩
  case round =>
    clear H'
    try clear c1
    obtain ⟨x3_1, x4_1, rfl, rfl, HA, HK1, ⟨m1, rfl⟩⟩ := hrel
    cases gk with
    | zero => exact absurd HA.out (by simp [interregnumlaw06_small.l0])
    | succ k1 =>
      have H := HA.out
      clear HA
      simp only [interregnumlaw06_small.l0] at H
      by_cases c2 : x4_1 < (l0.length : Int)
      · rw [if_pos c2] at H
        have c2b0 : decide (x4_1 < (l0.length : Int)) = true := decide_eq_true c2
        clear c2
        by_cases c3 : x3_1 < 3000
        · rw [if_pos c3] at H
          have c3b0 : decide (x3_1 < 3000) = true := decide_eq_true c3
          clear c3
          by_cases c4 : 0 ≤ x4_1
          · rw [if_pos c4] at H
            have c4b0 : decide (0 ≤ x4_1) = true := decide_eq_true c4
            clear c4
            have H' := Aside0.mk H
            clear H
            have p101 : 0 ≤ (x4_1 : Int) := of_decide_eq_true (by first | (with_reducible assumption) | assumption)
            have q101 : x4_1 < (l0.length : Int) := of_decide_eq_true (by first | (with_reducible assumption) | assumption)
            obtain ⟨ad101, A101_1, c101_1, e101, hx101_0, hx101_1, hl101_1, hi101_1⟩ := at_T38 HR0.out x4_1 p101 q101
            cases e101
            have HR101_1 := Aside0.mk hi101_1
            have HC101_1 := Aside0.mk hl101_1
            clear hi101_1 hl101_1
            replace p101 := eq_true p101
            replace q101 := eq_true q101
            go_wp2
            go_roundg k1
            case measure => have := HK1.out; omega
            case rel => exact ⟨(wrap64 (x3_1 + (((rd_T38 l0 x4_1).f1).length : Int))), (wrap64 (x4_1 + 1)), (by first | rfl | (simp; done) | (simp [*]; done)), (by first | rfl | (simp; done) | (simp [*]; done)), H', ⟨by have := HK1.out; omega⟩, by repeat (first | exact Drawn0.refl _ | apply Drawn0.step)⟩
          · rw [if_neg c4] at H
            exact absurd H (by simp)
        · rw [if_neg c3] at H
          have c3b0 : decide (x3_1 < 3000) = false := decide_eq_false c3
          clear c3
          obtain rfl := Option.some.inj H
          go_wp2
          go_ret
          exact ⟨by first | rfl | (simp; done) | (simp [*]; done), by repeat (first | exact Drawn0.refl _ | apply Drawn0.step)⟩
      · rw [if_neg c2] at H
        have c2b0 : decide (x4_1 < (l0.length : Int)) = false := decide_eq_false c2
        clear c2
        obtain rfl := Option.some.inj H
        go_wp2
        go_ret
        exact ⟨by first | rfl | (simp; done) | (simp [*]; done), by repeat (first | exact Drawn0.refl _ | apply Drawn0.step)⟩

/-! ### path_number: function 43 -/
def path_number.f (a0 : Int) : Option (Bool) := if a0 ≥ 1 then (some (decide (a0 ≤ 4294967295))) else (some false)
set_option maxHeartbeats 8000000 in
set_option maxRecDepth 100000 in
theorem path_number.calls (a0 : Int) (r : Bool) (w : World) (h : path_number.f a0 = some r) :
    Calls Try.prog 43 #[.int .i64 a0] w fun e w' => e = .returned (.bool r) ∧ Drawn0 w w' := by
  have H : (if a0 ≥ 1 then (some (decide (a0 ≤ 4294967295))) else (some false)) = some r := h
  clear h
  by_cases c2 : a0 ≥ 1
  · rw [if_pos c2] at H
    have c2b0 : decide (1 ≤ a0) = true := decide_eq_true c2
    clear c2
    obtain rfl := Option.some.inj H
    go_enter Try.func43, Try.ntmps43
    go_wp2
    go_ret
    exact ⟨by first | rfl | (simp; done) | (simp [*]; done), by repeat (first | exact Drawn0.refl _ | apply Drawn0.step)⟩
  · rw [if_neg c2] at H
    have c2b0 : decide (1 ≤ a0) = false := decide_eq_false c2
    clear c2
    obtain rfl := Option.some.inj H
    go_enter Try.func43, Try.ntmps43
    go_wp2
    go_ret
    exact ⟨by first | rfl | (simp; done) | (simp [*]; done), by repeat (first | exact Drawn0.refl _ | apply Drawn0.step)⟩

/-! ### path_Good_1: function 42 -/
def path_Good_1.f (a0 : Int) : Option (Bool) := (path_number.f a0).bind fun t102 => (some (!t102))
set_option maxHeartbeats 8000000 in
set_option maxRecDepth 100000 in
theorem path_Good_1.calls (a0 : Int) (r : Bool) (w : World) (h : path_Good_1.f a0 = some r) :
    Calls Try.prog 42 #[.int .i64 a0] w fun e w' => e = .returned (.bool r) ∧ Drawn0 w w' := by
  have H : ((path_number.f a0).bind fun t102 => (some (!t102))) = some r := h
  clear h
  replace H := Option.bind_eq_some_iff.mp H
  obtain ⟨t102, A20, H⟩ := H
  replace H : (some (!t102)) = some r := H
  have A2 := Aside0.mk A20
  clear A20
  obtain rfl := Option.some.inj H
  go_enter Try.func42, Try.ntmps42
  go_wp2_with (first | ((with_reducible refine gate_callee (f := 43) rfl ?_); refine goesL_ (some 4) rfl rfl Try.func43 (by kernel_rfl) rfl #[.int .i64 a0] rfl (by (try simp only [List.map_toArray, List.map_cons, List.map_nil]); first | done | rfl | (simp only [List.length_drop, List.length_take]; rfl)) ?_; (with_reducible refine (path_number.calls a0 t102 _ A2.out).mono ?_); rintro e w' ⟨rfl, ⟨nd, rfl⟩⟩; refine ⟨_, rfl, ?_⟩))
  go_ret
  exact ⟨by first | rfl | (simp; done) | (simp [*]; done), by repeat (first | exact Drawn0.refl _ | apply Drawn0.step)⟩

-- NOT PRINTED: function 56 (slices_IndexFunc_int_int)

-- NOT PRINTED: function 44 (slices_ContainsFunc_int_int)

/-! ### path_Good: function 15 -/
-- FN rounds=0 making=1
-- IMPORT Derived.Test.YtpkckkmgnlhhcaaHelp
open Go.Proofs.Ytpkckkmgnlhhcaa.Help
def oddB (x : Int) : Bool := !(decide (1 ≤ x) && decide (x ≤ 4294967295))
theorem odd_eq (x : Int) : path_Good_1.f x = some (oddB x) := by
  unfold path_Good_1.f path_number.f oddB
  split
  · rename_i h; have h2 : 1 ≤ x := h; simp [h2]
  · rename_i h; have h2 : ¬ 1 ≤ x := h; simp [h2]
set_option maxHeartbeats 2000000 in
set_option maxRecDepth 100000 in
theorem indexOdd (A0 : Option Addr) (c0 : Nat) (l0 : List Int) (w : World) (hr0 : Kd.C (Kd.int .i64) w A0 l0.length l0) (hc0 : l0.length ≤ c0) :
    Calls Try.prog 56 #[.slice A0 l0.length c0, .func (.func 42) #[] #[]] w fun e w' => e = .returned (.int .i64 (idxOf oddB l0)) ∧ Below w.heap.size w w' := by
  have HM := Aside0.mk (Kd.C_max hr0)
  have HR := Aside0.mk hr0
  have HC := Aside0.mk hc0
  clear hr0 hc0
  go_enter Try.func56, Try.ntmps56
  go_wp2
  go_loopg [8] (l0.length + 1) (fun kq v8 wr => ∃ x : Int, v8 = .int .i64 x ∧ Aside0 (0 ≤ x ∧ x + kq = l0.length + 1 ∧ (∀ y ∈ l0.take x.toNat, oddB y = false)) ∧ Aside0 (Below w.heap.size w wr))
  case atStart => exact ⟨0, rfl, ⟨by simp⟩, ⟨Below.refl _ _⟩⟩
  case round =>
    obtain ⟨x, rfl, HF, HB⟩ := hrel
    by_cases hlt : x < (l0.length : Int)
    · have q1 := hlt
      have p1 := HF.out.1
      have c4b0 : decide (x < (l0.length : Int)) = true := decide_eq_true hlt
      have HL := Aside0.mk hlt
      clear hlt
      obtain ⟨ad, e, h0⟩ := Kd.at_int (Kd.C_below HR.out HB.out) x p1 q1
      cases e
      replace p1 := eq_true p1
      replace q1 := eq_true q1
      have HX := path_Good_1.calls (rd l0 x) _ wr (odd_eq _)
      rcases hqx : oddB (rd l0 x) with _ | _
      · rw [hqx] at HX
        have HX := Aside0.mk HX
        have HQX := Aside0.mk hqx
        clear hqx
        cases gk with
        | zero => exact absurd HF.out.2.1 (by have := HL.out; omega)
        | succ k1 =>
          go_wp2_with fail
          refine HX.out.mono ?_
          rintro e w1 ⟨rfl, ⟨nd, rfl⟩⟩
          clear HX
          go_wp2
          go_roundg k1
          case measure => omega
          case rel =>
            refine ⟨x + 1, (by have hw : wrap64 (x + 1) = x + 1 := (by have := HM.out; have := HL.out; have := HF.out.1; unfold wrap64; omega); first | rfl | (simp [hw]; done)), ⟨by have := HF.out.1; omega, by have := HF.out.2.1; omega, take_next _ 0 _ _ HF.out.1 HL.out HF.out.2.2 HQX.out⟩, ⟨pw_below_drewN HB.out _⟩⟩
      · rw [hqx] at HX
        have HX := Aside0.mk HX
        have HQX := Aside0.mk hqx
        clear hqx
        go_wp2_with fail
        refine HX.out.mono ?_
        rintro e w1 ⟨rfl, ⟨nd, rfl⟩⟩
        clear HX
        go_wp2
        go_ret
        exact ⟨by rw [idxOf_at oddB 0 l0 x HF.out.1 HL.out HF.out.2.2 HQX.out]; rfl, pw_below_drewN HB.out _⟩
    · have c4b0 : decide (x < (l0.length : Int)) = false := decide_eq_false hlt
      have HL := Aside0.mk hlt
      clear hlt
      go_wp2
      go_ret
      exact ⟨by rw [idxOf_none oddB l0 (by have := HF.out.2.2; rwa [List.take_of_length_le (by have := HL.out; omega)] at this)]; rfl, HB.out⟩
set_option maxHeartbeats 2000000 in
set_option maxRecDepth 100000 in
theorem containsOdd (A0 : Option Addr) (c0 : Nat) (l0 : List Int) (w : World) (hr0 : Kd.C (Kd.int .i64) w A0 l0.length l0) (hc0 : l0.length ≤ c0) :
    Calls Try.prog 44 #[.slice A0 l0.length c0, .func (.func 42) #[] #[]] w fun e w' => e = .returned (.bool (l0.any oddB)) ∧ Below w.heap.size w w' := by
  have HI := Aside0.mk (indexOdd A0 c0 l0 w hr0 hc0)
  have HE := Aside0.mk (idxOf_any oddB l0)
  generalize idxOf oddB l0 = ix at HI HE
  go_enter Try.func44, Try.ntmps44
  go_wp2_with fail
  refine HI.out.mono ?_
  rintro e w1 ⟨rfl, hb1⟩
  have HB := Aside0.mk hb1
  clear hb1 HI
  go_wp2
  go_ret
  exact ⟨by rw [← HE.out]; rfl, HB.out⟩
def path_Good.g : List S38 → Int → Bool
  | [], n => decide (n ≤ 64)
  | s :: l, n => if s.f1.length < 1 ∨ s.f1.length > 255 ∨ s.f1.any oddB = true then false else path_Good.g l (wrap64 (n + s.f1.length))
def path_Good.f (l0 : List S38) : Option Bool := some (path_Good.g l0 0)
theorem drop_next (z : S38) (l : List S38) (x : Int) (h0 : 0 ≤ x) (h : x < l.length) : l.drop x.toNat = l.getD x.toNat z :: l.drop (x + 1).toNat := by
  have hl : x.toNat < l.length := by omega
  rw [show (x + 1).toNat = x.toNat + 1 by omega, List.drop_eq_getElem_cons hl, List.getD_eq_getElem?_getD, List.getElem?_eq_getElem hl]
  rfl
set_option maxHeartbeats 2000000 in
set_option maxRecDepth 100000 in
theorem path_Good.calls (A0 : Option Addr) (c0 : Nat) (l0 : List S38) (r : Bool) (w : World) (hr0 : Kd.C k38 w A0 l0.length l0) (hc0 : l0.length ≤ c0) (h : path_Good.f l0 = some r) :
    Calls Try.prog 15 #[.slice A0 l0.length c0] w fun e w' => e = .returned (.bool r) ∧ Below w.heap.size w w' := by
  have hu38 := Try.underlying38
  have HM := Aside0.mk (Kd.C_max hr0)
  have HR := Aside0.mk hr0
  have HC := Aside0.mk hc0
  have HG := Aside0.mk (Option.some.inj h)
  clear hr0 hc0 h
  go_enter Try.func15, Try.ntmps15
  go_wp2
  go_loopg [3, 9] (l0.length + 1) (fun kq v3 v9 wr => ∃ (n x : Int), v3 = .int .i64 n ∧ v9 = .int .i64 x ∧ Aside0 (0 ≤ x ∧ x + kq = l0.length + 1 ∧ path_Good.g (l0.drop x.toNat) n = r) ∧ Aside0 (Below w.heap.size w wr))
  case atStart => exact ⟨0, 0, rfl, rfl, ⟨by simp, by simp, HG.out⟩, ⟨Below.refl _ _⟩⟩
  case round =>
    clear HG
    obtain ⟨n, x, rfl, rfl, HF, HB⟩ := hrel
    by_cases hlt : x < (l0.length : Int)
    · have q1 := hlt
      have p1 := HF.out.1
      have c4b0 : decide (x < (l0.length : Int)) = true := decide_eq_true hlt
      have HL := Aside0.mk hlt
      clear hlt
      obtain ⟨ad, A1, c1, e, h0, h1, hc1, hr1⟩ := at_T38 (Kd.C_below HR.out HB.out) x p1 q1
      cases e
      have HD := Aside0.mk (drop_next z38 l0 x p1 q1)
      have HN := Aside0.mk (Kd.C_max hr1)
      have HR1 := Aside0.mk hr1
      have HC1 := Aside0.mk hc1
      clear hr1 hc1
      replace p1 := eq_true p1
      replace q1 := eq_true q1
      obtain ⟨s, hs⟩ : ∃ s, rd_T38 l0 x = s := ⟨_, rfl⟩
      have HD : Aside0 (l0.drop x.toNat = s :: l0.drop (x + 1).toNat) := ⟨by rw [← hs]; exact HD.out⟩
      rw [hs] at h0 h1 HR1 HC1 HN
      clear hs
      by_cases hlo : (s.f1.length : Int) < 1
      · have d1 : decide ((s.f1.length : Int) < 1) = true := decide_eq_true hlo
        have HF2 := Aside0.mk (show r = false by rw [← HF.out.2.2, HD.out]; unfold path_Good.g; rw [if_pos (.inl (by omega))])
        clear hlo
        go_wp2
        go_ret
        exact ⟨by rw [HF2.out]; rfl, below_alloc HB.out _⟩
      · have d1 : decide ((s.f1.length : Int) < 1) = false := decide_eq_false hlo
        by_cases hhi : (s.f1.length : Int) > 255
        · have d2 : decide ((255 : Int) < s.f1.length) = true := decide_eq_true hhi
          have HF2 := Aside0.mk (show r = false by rw [← HF.out.2.2, HD.out]; unfold path_Good.g; rw [if_pos (.inr (.inl (by omega)))])
          clear hlo hhi
          go_wp2
          go_ret
          exact ⟨by rw [HF2.out]; rfl, below_alloc HB.out _⟩
        · have d2 : decide ((255 : Int) < s.f1.length) = false := decide_eq_false hhi
          have HA := Aside0.mk (show ∀ o, Calls Try.prog 44 #[.slice A1 s.f1.length c1, .func (.func 42) #[] #[]] (wr.alloc o) fun e w' => e = .returned (.bool (s.f1.any oddB)) ∧ Below (wr.alloc o).heap.size (wr.alloc o) w' from
            fun o => containsOdd A1 c1 s.f1 (wr.alloc o) (Kd.C_alloc HR1.out _) HC1.out)
          rcases hany : s.f1.any oddB with _ | _
          · have HF2 := Aside0.mk (show path_Good.g (l0.drop (x + 1).toNat) (wrap64 (n + s.f1.length)) = r by
              rw [← HF.out.2.2, HD.out]
              conv => rhs; unfold path_Good.g
              rw [if_neg (by
                rintro (h | h | h)
                · omega
                · omega
                · rw [hany] at h; exact absurd h (by simp))])
            rw [hany] at HA
            clear hlo hhi hany
            cases gk with
            | zero => exact absurd HF.out.2.1 (by have := HL.out; omega)
            | succ k1 =>
              go_wp2_with fail
              refine (HA.out _).mono ?_
              rintro e w1 ⟨rfl, hb1⟩
              have HB1 := Aside0.mk ((below_alloc HB.out _).trans (hb1.mono (by rw [alloc_size]; have := HB.out.size; omega)))
              obtain ⟨hbc, hbf⟩ : w1.heap[wr.heap.size]? = some (.cells #[.bool s.f0, .slice A1 s.f1.length c1] 38) ∧ True := ⟨by rw [hb1.block _ (by rw [alloc_size]; omega), alloc_at], trivial⟩
              have hb0 : w1.cell? ⟨wr.heap.size, 1, none⟩ = some (.slice A1 s.f1.length c1) := by simp [World.cell?, hbc]
              clear hb1 HA hbc hbf
              go_wp2
              go_roundg k1
              case measure => omega
              case rel =>
                refine ⟨wrap64 (n + s.f1.length), x + 1, rfl, (by have hw : wrap64 (x + 1) = x + 1 := (by have := HM.out; have := HL.out; have := HF.out.1; unfold wrap64; omega); first | rfl | (simp [hw]; done)), ⟨by have := HF.out.1; omega, by have := HF.out.2.1; omega, HF2.out⟩, HB1⟩
          · have HF2 := Aside0.mk (show r = false by rw [← HF.out.2.2, HD.out]; unfold path_Good.g; rw [if_pos (.inr (.inr hany))])
            rw [hany] at HA
            clear hlo hhi hany
            go_wp2_with fail
            refine (HA.out _).mono ?_
            rintro e w1 ⟨rfl, hb1⟩
            have HB1 := Aside0.mk ((below_alloc HB.out _).trans (hb1.mono (by rw [alloc_size]; have := HB.out.size; omega)))
            clear hb1 HA
            go_wp2
            go_ret
            exact ⟨by rw [HF2.out]; rfl, HB1.out⟩
    · have c4b0 : decide (x < (l0.length : Int)) = false := decide_eq_false hlt
      have HL := Aside0.mk hlt
      clear hlt
      have HE := Aside0.mk (show r = decide (n ≤ 64) by
        rw [← HF.out.2.2, List.drop_of_length_le (by have := HL.out; omega)]
        rfl)
      go_wp2
      go_ret
      exact ⟨by rw [HE.out]; rfl, HB.out⟩


/-! ### region_Put: function 41 -/
def region_Put.f (l0 : List Int) (a1 : Int) : Option (List Int) := (some (([(a1 / 16777216) % 256, (a1 / 65536) % 256, (a1 / 256) % 256, (a1) % 256] : List Int) : List Int)).bind fun y103 => (if l0.length + y103.length < 140737488355328 then (some (l0 ++ y103)) else (none))
set_option maxHeartbeats 8000000 in
set_option maxRecDepth 100000 in
theorem region_Put.calls (P0_ : Nat → Prop) (u9000_ : Value) (l0 : List Int) (a1 : Int) (r : List Int) (w0 w : World) (hB : Below w0.heap.size w0 w) (ho0 : Kd.R (Kd.int .u8) 5 w w0.heap.size P0_ u9000_ l0) (h : region_Put.f l0 a1 = some r) :
    Calls Try.prog 41 #[u9000_, .int .u32 a1] w fun e w' => ∃ v0_ : Value, e = .returned (v0_) ∧ Kd.R (Kd.int .u8) 5 w' w0.heap.size (fun k_ => (P0_ k_ ∨ w.heap.size ≤ k_)) v0_ r ∧ Below w0.heap.size w0 w' ∧ Kept w w' (fun k_ => P0_ k_) := by
  have HO0 := Aside0.mk (show Kd.R (Kd.int .u8) 5 w w0.heap.size (fun k_ => (P0_ k_ ∨ w.heap.size ≤ k_)) u9000_ l0 from Kd.R_mono ho0 (fun k_ hk => (.inl hk)))
  have HK := Aside0.mk (Kept.refl w (fun k_ => P0_ k_))
  have HW0 := Aside0.mk hB.size
  have HB := Aside0.mk hB
  clear hB
  have H : ((some (([(a1 / 16777216) % 256, (a1 / 65536) % 256, (a1 / 256) % 256, (a1) % 256] : List Int) : List Int)).bind fun y103 => (if l0.length + y103.length < 140737488355328 then (some (l0 ++ y103)) else (none))) = some r := h
  clear h
  obtain ⟨y103, hy103⟩ : ∃ y_ : List Int, y_ = (([(a1 / 16777216) % 256, (a1 / 65536) % 256, (a1 / 256) % 256, (a1) % 256] : List Int)) := ⟨_, rfl⟩
  replace H : (if l0.length + y103.length < 140737488355328 then (some (l0 ++ y103)) else (none)) = some r := by first | (rw [hy103]; with_reducible exact H) | (have H2_ := (Option.bind_some _ _).symm.trans H; rw [hy103]; with_reducible exact H2_) | (have H2_ := (Option.bind_some _ _).symm.trans H; with_reducible exact H2_) | with_reducible exact H | (rw [hy103]; exact H) | exact H
  have Ny103 := Aside0.mk hy103
  clear hy103
  by_cases c3 : l0.length + y103.length < 140737488355328
  · rw [if_pos c3] at H
    have LMc3 := Aside0.mk c3
    clear c3
    obtain ⟨y106, hy106⟩ : ∃ y_ : List Int, y_ = (l0 ++ y103) := ⟨_, rfl⟩
    replace H : (some y106) = some r := by first | (rw [hy106]; with_reducible exact H) | (have H2_ := (Option.bind_some _ _).symm.trans H; rw [hy106]; with_reducible exact H2_) | (have H2_ := (Option.bind_some _ _).symm.trans H; with_reducible exact H2_) | with_reducible exact H | (rw [hy106]; exact H) | exact H
    have Ny106 := Aside0.mk hy106
    clear hy106
    obtain rfl := Option.some.inj H
    go_enter Try.func41, Try.ntmps41
    go_wp2_with (first | ((with_reducible refine gate_dst (N := 17) rfl ?_); refine Kd.R_lit (Kd.int .u8) _ 5 ?hg (N := 17) ?hd (xs := ([(a1 / 16777216) % 256, (a1 / 65536) % 256, (a1 / 256) % 256, (a1) % 256] : List Int)) (inner := [.int .u8 ((a1 / 16777216) % 256), .int .u8 ((a1 / 65536) % 256), .int .u8 ((a1 / 256) % 256), .int .u8 ((a1) % 256)]) (ok := fun _ => True) (okp := fun _ => True) ?hr ?hp (fun _ hk => hk) trivial (Below.refl _ _) (Nat.le_refl _) (by simp) ?_; (case hd => rfl); (case hg => rfl); (case hr => first | (go_simp; done) | (go_simp; rfl) | (go_simp; simp [IntKind.wrap_u8, IntKind.wrap_u32]; done)); (case hp => exact (Reps.one (show Kd.M (Kd.int .u8) _ _ _ ((a1 / 16777216) % 256) [.int .u8 ((a1 / 16777216) % 256)] from rfl) (Reps.one (show Kd.M (Kd.int .u8) _ _ _ ((a1 / 65536) % 256) [.int .u8 ((a1 / 65536) % 256)] from rfl) (Reps.one (show Kd.M (Kd.int .u8) _ _ _ ((a1 / 256) % 256) [.int .u8 ((a1 / 256) % 256)] from rfl) (Reps.one (show Kd.M (Kd.int .u8) _ _ _ ((a1) % 256) [.int .u8 ((a1) % 256)] from rfl) (Reps.none _ _)))))); intro v104 w4 ho5 hb hg_ hnew_; clear hg_ hnew_; (first | rw [← Ny103.out] at ho5 | (simp only [Int.reduceToNat] at ho5; rw [← Ny103.out] at ho5)); have n0_ := Aside0.mk (Kd.R_elder' (by (with_reducible repeat (first | apply Kd.R_alloc | apply Kd.R_drewN | apply Kd.R_drew)); exact HO0.out) (Kd.R_base ho5) hb); have n1_ := Aside0.mk (Kd.R_lower (Kd.R_new' (Kd.R_newM (M := fun k_ => (P0_ k_ ∨ w.heap.size ≤ k_)) ho5 (by first | exact HK.out.1 | exact (show Kept w _ (fun k_ => P0_ k_) from by repeat (first | (with_reducible first | exact HK.out | apply Kept.alloc | apply Kept.drewN | apply Kept.drew) | exact HK.out)).1) (fun k_ h_ => .inr h_)) (Kd.R_lt (by (with_reducible repeat (first | apply Kd.R_alloc | apply Kd.R_drewN | apply Kd.R_drew)); exact HO0.out))) (below_size (by repeat (first | (with_reducible first | exact HB.out | apply below_alloc | apply pw_below_drewN | apply below_drew1) | exact HB.out)))); have n2_ := Aside0.mk (Kept.below (S := (fun k_ => P0_ k_)) (by repeat (first | (with_reducible first | exact HK.out | apply Kept.alloc | apply Kept.drewN | apply Kept.drew) | exact HK.out)) hb); have n3_ := Aside0.mk (below_step (by repeat (first | (with_reducible first | exact HB.out | apply below_alloc | apply pw_below_drewN | apply below_drew1) | exact HB.out)) hb); clear HO0; clear HK; clear HB; have HO0 := n0_; have HO105 := n1_; have HK := n2_; have HB := n3_; clear n0_ n1_ n2_ n3_; clear hb ho5; obtain ⟨Ao7, co7, eo7⟩ := Kd.R_slice HO105.out; subst eo7) | ((with_reducible refine gate_builtin (b := .append) (xs := #[.tmp 5, .tmp 17]) rfl ?_); at_builtin; refine Kd.R_append_rows (Kd.int .u8) (w0 := w0) w0.heap.size rfl (.tmp 5) (.tmp 17) 25 5 (.int .u8 0) 1 rfl Try.underlying25 info5 rfl (by decide) (by omega) u9000_ l0 y103 _ _ _ (fun k_ => (P0_ k_ ∨ w.heap.size ≤ k_) ∧ some k_ ≠ (.slice Ao7 y103.length co7 : Value).ownBlock) (fun _ => False) rfl rfl ?aO ?aR (fun _ _ h => h) (fun _ h => h.elim) ?aF ?aB ?aS ?aL ?_; (case aR => repeat (first | exact (Kd.R_reads' HO105.out).2.2 | (with_reducible refine Kd.C_alloc ?_ _) | (with_reducible refine Kd.C_drewN ?_ _) | (with_reducible refine Kd.C_drew ?_))); (case aB => exact (by repeat (first | (with_reducible first | exact HB.out | apply below_alloc | apply pw_below_drewN | apply below_drew1) | exact HB.out))); (case aF => exact (fun k_ hk => ⟨(.inr (Nat.le_trans (by first | exact HK.out.1 | exact (show Kept w _ (fun k_ => P0_ k_) from by repeat (first | (with_reducible first | exact HK.out | apply Kept.alloc | apply Kept.drewN | apply Kept.drew) | exact HK.out)).1) hk)), Kd.fresh' (Kd.R_lt (by (with_reducible repeat (first | apply Kd.R_alloc | apply Kd.R_drewN | apply Kd.R_drew)); exact HO105.out)) k_ hk⟩)); (case aO => exact (by (with_reducible repeat (first | apply Kd.R_alloc | apply Kd.R_drewN | apply Kd.R_drew)); exact HO0.out)); (case aS => exact (below_size (by repeat (first | (with_reducible first | exact HB.out | apply below_alloc | apply pw_below_drewN | apply below_drew1) | exact HB.out)))); (case aL => have := LMc3.out; omega); intro v107 w6 ho hb hg hat; rw [← Ny106.out] at ho; have n0_ := Aside0.mk (Kd.R_after (ok := (fun k_ => (P0_ k_ ∨ w.heap.size ≤ k_))) (by (with_reducible repeat (first | apply Kd.R_alloc | apply Kd.R_drewN | apply Kd.R_drew)); exact Kd.R_mono HO105.out (fun _ hk => ⟨hk.1.1, hk.2⟩)) hg hat); have n1_ := Aside0.mk (hb); have n2_ := Aside0.mk (Kept.of_grown (S := (fun k_ => P0_ k_)) hg (by repeat (first | (with_reducible first | exact HK.out | apply Kept.alloc | apply Kept.drewN | apply Kept.drew) | exact HK.out)) (fun k_ e_ => (HO0.out.1 k_ e_).1)); have n3_ := Aside0.mk (ho); clear HO105; clear HB; clear HK; clear HO0; have HO105 := n0_; have HB := n1_; have HK := n2_; have HO108 := n3_; clear n0_ n1_ n2_ n3_; clear ho hb hg hat))
    go_ret
    exact ⟨_, by first | rfl | (simp [errW_none, errW_some] <;> rfl) | (simp [*, errW_none, errW_some] <;> rfl), by (with_reducible repeat (first | apply Kd.R_alloc | apply Kd.R_drewN | apply Kd.R_drew)); exact Kd.R_mono HO108.out (fun _ hk => hk.1), by repeat (first | (with_reducible first | exact HB.out | apply below_alloc | apply pw_below_drewN | apply below_drew1) | exact HB.out), by repeat (first | (with_reducible first | exact HK.out | apply Kept.alloc | apply Kept.drewN | apply Kept.drew) | exact HK.out)⟩
  · rw [if_neg c3] at H
    exact absurd H (by simp)

/-! ### path_Encode: function 14 -/
mutual
def path_Encode.l0 : Nat → List Int → List (S38) → Int → Int → Option (List Int)
  | 0, _, _, _, _ => none
  | k + 1, x3, x12, x13, x14 => if x14 < x13 then (if 0 ≤ x14 then (if x14 < (x12.length : Int) then (if (rd_T38 x12 x14).f0 = true then (path_Encode.j1 k x3 1 x12 x13 x14 ((rd_T38 x12 x14).f0) ((rd_T38 x12 x14).f1)) else (path_Encode.j1 k x3 2 x12 x13 x14 ((rd_T38 x12 x14).f0) ((rd_T38 x12 x14).f1))) else (none)) else (none)) else (some x3)
def path_Encode.j1 : Nat → List Int → Int → List (S38) → Int → Int → Bool → List Int → Option (List Int)
  | 0, _, _, _, _, _, _, _ => none
  | k + 1, x3, x6, x12, x13, x14, x112000, x112001 => (some (([x6, ((x112001.length : Int)) % 256] : List Int) : List Int)).bind fun y112 => (if x3.length + y112.length < 140737488355328 then (path_Encode.l1 k (x3 ++ y112) x12 x13 x14 x112001 (x112001.length : Int) 0) else (none))
def path_Encode.l1 : Nat → List Int → List (S38) → Int → Int → List Int → Int → Int → Option (List Int)
  | 0, _, _, _, _, _, _, _ => none
  | k + 1, x3, x12, x13, x14, x29, x30, x31 => if x31 < x30 then (if 0 ≤ x31 then (if x31 < (x29.length : Int) then ((region_Put.f x3 ((rd x29 x31) % 4294967296)).bind fun t119 => (path_Encode.l1 k t119 x12 x13 x14 x29 x30 (wrap64 (x31 + 1)))) else (none)) else (none)) else (path_Encode.l0 k x3 x12 x13 (wrap64 (x14 + 1)))
end
def path_Encode.f (k : Nat) (l0 : List (S38)) : Option (List Int) := (path_Good.f l0).bind fun t109 => (if t109 = true then (path_Encode.l0 k ([] : List Int) l0 (l0.length : Int) 0) else (some ([] : List Int)))
theorem path_Encode.mono_l : ∀ k, (∀ y0 y1 y2 y3, LeO (path_Encode.l0 k y0 y1 y2 y3) (path_Encode.l0 (k + 1) y0 y1 y2 y3)) ∧ (∀ y0 y1 y2 y3 y4 y5 y6, LeO (path_Encode.j1 k y0 y1 y2 y3 y4 y5 y6) (path_Encode.j1 (k + 1) y0 y1 y2 y3 y4 y5 y6)) ∧ (∀ y0 y1 y2 y3 y4 y5 y6, LeO (path_Encode.l1 k y0 y1 y2 y3 y4 y5 y6) (path_Encode.l1 (k + 1) y0 y1 y2 y3 y4 y5 y6))
  | 0 => ⟨fun _ _ _ _ r h => by simp [path_Encode.l0] at h, fun _ _ _ _ _ _ _ r h => by simp [path_Encode.j1] at h, fun _ _ _ _ _ _ _ r h => by simp [path_Encode.l1] at h⟩
  | k + 1 => by
    obtain ⟨ih0, ih1, ih2⟩ := path_Encode.mono_l k
    refine ⟨?_, ?_, ?_⟩
    · intro y0 y1 y2 y3
      unfold path_Encode.l0
      repeat' first
      | (with_reducible exact ih0 _ _ _ _)
      | (with_reducible exact ih1 _ _ _ _ _ _ _)
      | (with_reducible exact ih2 _ _ _ _ _ _ _)
      | (with_reducible exact LeO.refl _)
      | (with_reducible exact LeO.none _)
      | (with_reducible refine LeO.ite ?_ ?_)
      | (with_reducible refine LeO.bind ?_ (fun _ => ?_))
      | exact ih0 _ _ _ _
      | exact ih1 _ _ _ _ _ _ _
      | exact ih2 _ _ _ _ _ _ _
      | exact LeO.none _
      | refine LeO.ite ?_ ?_
      | refine LeO.bind ?_ (fun _ => ?_)
    · intro y0 y1 y2 y3 y4 y5 y6
      unfold path_Encode.j1
      repeat' first
      | (with_reducible exact ih0 _ _ _ _)
      | (with_reducible exact ih1 _ _ _ _ _ _ _)
      | (with_reducible exact ih2 _ _ _ _ _ _ _)
      | (with_reducible exact LeO.refl _)
      | (with_reducible exact LeO.none _)
      | (with_reducible refine LeO.ite ?_ ?_)
      | (with_reducible refine LeO.bind ?_ (fun _ => ?_))
      | exact ih0 _ _ _ _
      | exact ih1 _ _ _ _ _ _ _
      | exact ih2 _ _ _ _ _ _ _
      | exact LeO.none _
      | refine LeO.ite ?_ ?_
      | refine LeO.bind ?_ (fun _ => ?_)
    · intro y0 y1 y2 y3 y4 y5 y6
      unfold path_Encode.l1
      repeat' first
      | (with_reducible exact ih0 _ _ _ _)
      | (with_reducible exact ih1 _ _ _ _ _ _ _)
      | (with_reducible exact ih2 _ _ _ _ _ _ _)
      | (with_reducible exact LeO.refl _)
      | (with_reducible exact LeO.none _)
      | (with_reducible refine LeO.ite ?_ ?_)
      | (with_reducible refine LeO.bind ?_ (fun _ => ?_))
      | exact ih0 _ _ _ _
      | exact ih1 _ _ _ _ _ _ _
      | exact ih2 _ _ _ _ _ _ _
      | exact LeO.none _
      | refine LeO.ite ?_ ?_
      | refine LeO.bind ?_ (fun _ => ?_)
theorem path_Encode.mono : ∀ a0 k, LeO (path_Encode.f k a0) (path_Encode.f (k + 1) a0) := by
  intro a0 k
  obtain ⟨ih0, ih1, ih2⟩ := path_Encode.mono_l k
  unfold path_Encode.f
  repeat' first
      | (with_reducible exact ih0 _ _ _ _)
      | (with_reducible exact ih1 _ _ _ _ _ _ _)
      | (with_reducible exact ih2 _ _ _ _ _ _ _)
      | (with_reducible exact LeO.refl _)
      | (with_reducible exact LeO.none _)
      | (with_reducible refine LeO.ite ?_ ?_)
      | (with_reducible refine LeO.bind ?_ (fun _ => ?_))
      | exact ih0 _ _ _ _
      | exact ih1 _ _ _ _ _ _ _
      | exact ih2 _ _ _ _ _ _ _
      | exact LeO.none _
      | refine LeO.ite ?_ ?_
      | refine LeO.bind ?_ (fun _ => ?_)
set_option maxHeartbeats 8000000 in
set_option maxRecDepth 100000 in
theorem path_Encode.calls (k : Nat) (A0 : Option Addr) (c0 : Nat) (l0 : List (S38)) (r : List Int) (w : World) (hr0 : Kd.C k38 w A0 l0.length l0) (hc0 : l0.length ≤ c0) (h : path_Encode.f k l0 = some r) :
    Calls Try.prog 14 #[.slice A0 l0.length c0] w fun e w' => ∃ v0_ : Value, e = .returned (v0_) ∧ Kd.R (Kd.int .u8) 5 w' w.heap.size (fun _ => True) v0_ r ∧ Below w.heap.size w w' := by
  have hu38 := Try.underlying38
  have HR0 := Aside0.mk hr0
  have HC0 := Aside0.mk hc0
  clear hr0 hc0
  have HB := Aside0.mk (Below.refl w.heap.size w)
  have H : ((path_Good.f l0).bind fun t109 => (if t109 = true then (path_Encode.l0 k ([] : List Int) l0 (l0.length : Int) 0) else (some ([] : List Int)))) = some r := h
  clear h
  replace H := Option.bind_eq_some_iff.mp H
  obtain ⟨t109, A20, H⟩ := H
  replace H : (if t109 = true then (path_Encode.l0 k ([] : List Int) l0 (l0.length : Int) 0) else (some ([] : List Int))) = some r := H
  have A2 := Aside0.mk A20
  clear A20
  by_cases c3 : t109 = true
  · subst c3
    have H1 : (path_Encode.l0 k ([] : List Int) l0 (l0.length : Int) 0) = some r := by rw [if_pos rfl] at H; exact H
    clear H
    have H := H1
    clear H1
    have H' := Aside0.mk H
    clear H
    go_enter Try.func14, Try.ntmps14
    go_wp2_with (first | ((with_reducible refine gate_callee (f := 15) rfl ?_); refine goesL_ (some 10) rfl rfl Try.func15 (by kernel_rfl) rfl #[.slice A0 l0.length c0] rfl (by (try simp only [List.map_toArray, List.map_cons, List.map_nil]); first | done | rfl | (simp only [List.length_drop, List.length_take]; rfl)) ?_; (with_reducible refine (path_Good.calls _ _ l0 true _ ?side1 ?side2 A2.out).mono ?_); (case side1 => repeat (first | exact HR0.out | (with_reducible refine Kd.C_alloc ?_ _) | (with_reducible refine Kd.C_drewN ?_ _) | (with_reducible refine Kd.C_drew ?_))); (case side2 => exact HC0.out); rintro e w4 ⟨rfl, hb⟩; refine ⟨_, rfl, ?_⟩; have n0_ := Aside0.mk (below_step (by repeat (first | (with_reducible first | exact HB.out | apply below_alloc | apply pw_below_drewN | apply below_drew1) | exact HB.out)) hb); clear HB; have HB := n0_; clear n0_; (try clear hb); (try clear hb2); (try clear hk); (try clear hi)))
    go_loopg [3, 14] k (fun kq v3 v14 w' => ∃ (x3_1 : List Int) (x14_1 : Int), v14 = .int .i64 x14_1 ∧ Aside0 (path_Encode.l0 kq x3_1 l0 (l0.length : Int) x14_1 = some r) ∧ Aside0 (kq ≤ k) ∧ Aside0 (Kd.R (Kd.int .u8) 5 w' w.heap.size (fun _ => True) v3 x3_1) ∧ Aside0 (Below w.heap.size w w'))
    case atStart => exact ⟨(([] : List Int)), (0), (by first | rfl | (simp; done) | (simp [*]; done)), H', ⟨Nat.le_refl _⟩, ⟨by first | exact Kd.R_nil _ _ _ _ _ | exact Kd.N_nil _ _ _ _ _ | exact Kd.V_nil _ _ _ _ _ | exact Kd.Q_nil _ _ _ _ _ | exact Kd.S_nil _ _ _ _ _⟩, ⟨by repeat (first | (with_reducible first | exact HB.out | apply below_alloc | apply pw_below_drewN | apply below_drew1) | exact HB.out)⟩⟩
    case round =>
      clear H'
      try clear c1
      try clear p2
      try clear c3
      obtain ⟨x3_1, x14_1, rfl, HA, HK1, HO_3, HB⟩ := hrel
      cases gk with
      | zero => exact absurd HA.out (by simp [path_Encode.l0])
      | succ k1 =>
        have H := HA.out
        clear HA
        simp only [path_Encode.l0] at H
        by_cases c5 : x14_1 < (l0.length : Int)
        · rw [if_pos c5] at H
          have c5b0 : decide (x14_1 < (l0.length : Int)) = true := decide_eq_true c5
          clear c5
          by_cases c6 : 0 ≤ x14_1
          · rw [if_pos c6] at H
            have c6b0 : decide (0 ≤ x14_1) = true := decide_eq_true c6
            clear c6
            by_cases c7 : x14_1 < (l0.length : Int)
            · rw [if_pos c7] at H
              have c7b0 : decide (x14_1 < (l0.length : Int)) = true := decide_eq_true c7
              clear c7
              have HC8 := Aside0.mk H
              clear H
              have p110 : 0 ≤ (x14_1 : Int) := of_decide_eq_true (by first | (with_reducible assumption) | assumption)
              have q110 : x14_1 < (l0.length : Int) := of_decide_eq_true (by first | (with_reducible assumption) | assumption)
              obtain ⟨ad110, A110_1, c110_1, e110, hx110_0, hx110_1, hl110_1, hi110_1⟩ := at_T38 HR0.out x14_1 p110 q110
              cases e110
              replace hx110_0 := (HB.out.cell (World.block_lt_of_cell? w _ hx110_0)).trans hx110_0
              replace hx110_1 := (HB.out.cell (World.block_lt_of_cell? w _ hx110_1)).trans hx110_1
              have HR110_1 := Aside0.mk hi110_1
              have HC110_1 := Aside0.mk hl110_1
              clear hi110_1 hl110_1
              replace p110 := eq_true p110
              replace q110 := eq_true q110
              go_upto_if 19 with (first | ((with_reducible refine gate_dst (N := 5) rfl ?_); refine box_event ?hg (N := 5) ?hd (cs := #[.bool false, .slice none 0 0]) (t := 38) ?hr ?_; (case hd => rfl); (case hg => rfl); (case hr => first | (go_simp; done) | (go_simp; rfl) | (go_simp; simp [IntKind.wrap_u8, IntKind.wrap_u32]; done)); intro gb111 hg w9 hbox hb; have n0_ := Aside0.mk (Kd.R_below (by (with_reducible repeat (first | apply Kd.R_alloc | apply Kd.R_drewN | apply Kd.R_drew)); exact HO_3.out) hb); have n1_ := Aside0.mk (below_step (by repeat (first | (with_reducible first | exact HB.out | apply below_alloc | apply pw_below_drewN | apply below_drew1) | exact HB.out)) hb); have n2_ := Aside0.mk (hbox); have n3_ := Aside0.mk ((by rw [hg]; exact (below_size (by repeat (first | (with_reducible first | exact HB.out | apply below_alloc | apply pw_below_drewN | apply below_drew1) | exact HB.out))) : w.heap.size ≤ gb111)); have n4_ := Aside0.mk ((by rw [hg]; exact (below_size (by repeat (first | (with_reducible first | exact HB.out | apply below_alloc | apply pw_below_drewN | apply below_drew1) | exact HB.out))) : w.heap.size ≤ gb111)); clear HO_3; clear HB; have HO_3 := n0_; have HB := n1_; have BK111 := n2_; have GW111 := n3_; have GE111 := n4_; clear n0_ n1_ n2_ n3_ n4_; clear hb hbox hg; have hcz10_0 : w9.cell? ⟨gb111, 0, none⟩ = some (.bool false) := (blk_cell BK111.out 0).trans rfl; have hcz10_1 : w9.cell? ⟨gb111, 1, none⟩ = some (.slice none 0 0) := (blk_cell BK111.out 1).trans rfl; have hfz10_0 := blk_frozen BK111.out 0; have hfz10_1 := blk_frozen BK111.out 1))
              (try simp only [Act.put, List.setIfInBounds_toArray, List.set_cons_zero, List.set_cons_succ])
              go_cut [6] (fun v6 wc => ∃ (kq : Nat) (x6_7 : Int), v6 = .int .u8 x6_7 ∧ Aside0 (path_Encode.j1 kq x3_1 x6_7 l0 (l0.length : Int) x14_1 ((rd_T38 l0 x14_1).f0) ((rd_T38 l0 x14_1).f1) = some r) ∧ Aside0 (kq ≤ k1) ∧ Aside0 (Kd.R (Kd.int .u8) 5 wc w.heap.size (fun _ => True) u3 x3_1) ∧ Aside0 (wc.heap[gb111]? = some (.cells #[.bool ((rd_T38 l0 x14_1).f0), (.slice A110_1 ((rd_T38 l0 x14_1).f1).length c110_1)] 38 (0, 0))) ∧ Aside0 (Below w.heap.size w wc))
              case first =>
                have H := HC8.out
                clear HC8
                obtain ⟨bq11, hbq11⟩ : ∃ b_ : Bool, b_ = ((rd_T38 l0 x14_1).f0) := ⟨_, rfl⟩
                replace H : (if bq11 = true then (path_Encode.j1 k1 x3_1 1 l0 (l0.length : Int) x14_1 bq11 ((rd_T38 l0 x14_1).f1)) else (path_Encode.j1 k1 x3_1 2 l0 (l0.length : Int) x14_1 bq11 ((rd_T38 l0 x14_1).f1))) = some r := by rw [← hbq11] at H; exact H
                have Nbq11 := Aside0.mk hbq11
                clear hbq11
                (try rw [← Nbq11.out])
                by_cases c12 : bq11 = true
                · subst c12
                  have H1 : (path_Encode.j1 k1 x3_1 1 l0 (l0.length : Int) x14_1 true ((rd_T38 l0 x14_1).f1)) = some r := by rw [if_pos rfl] at H; exact H
                  clear H
                  have H := H1
                  clear H1
                  have H' := Aside0.mk H
                  clear H
                  go_wp2
                  go_meet
                  case rel => first | exact ⟨_, (1), (by first | rfl | (simp; done) | (simp [*]; done)), H', ⟨by have := HK1.out; first | omega | exact Nat.le_refl _⟩, ⟨by (with_reducible repeat (first | apply Kd.R_alloc | apply Kd.R_drewN | apply Kd.R_drew)); exact Kd.R_mono (Kd.R_far (p := ⟨gb111, 1, none⟩) (Kd.R_far (p := ⟨gb111, 0, none⟩) (Kd.R_types HO_3.out BK111.out (by decide)) (fun _ hk => hk.2) (.bool (true))) (fun _ hk => hk.2) (.slice A110_1 ((rd_T38 l0 x14_1).f1).length c110_1)) (fun _ hk => trivial)⟩, ⟨by (with_reducible repeat (first | refine blk_drewN ?_ _ | refine blk_drew ?_ | refine blk_alloc ?_ _)); refine blk_put (cs := #[.bool (true), .slice none 0 0]) ?_ 1 _ rfl; (with_reducible repeat (first | refine blk_drewN ?_ _ | refine blk_drew ?_ | refine blk_alloc ?_ _)); refine blk_put (cs := #[.bool false, .slice none 0 0]) ?_ 0 _ rfl; (with_reducible repeat (first | refine blk_drewN ?_ _ | refine blk_drew ?_ | refine blk_alloc ?_ _)); exact BK111.out⟩, ⟨by repeat (first | (with_reducible first | exact HB.out | apply below_alloc | apply pw_below_drewN | apply below_drew1 | refine below_set ?_ GE111.out) | exact HB.out)⟩⟩ | ((try rw [← Nbq11.out]); exact ⟨_, (1), (by first | rfl | (simp; done) | (simp [*]; done)), H', ⟨by have := HK1.out; first | omega | exact Nat.le_refl _⟩, ⟨by (with_reducible repeat (first | apply Kd.R_alloc | apply Kd.R_drewN | apply Kd.R_drew)); exact Kd.R_mono (Kd.R_far (p := ⟨gb111, 1, none⟩) (Kd.R_far (p := ⟨gb111, 0, none⟩) (Kd.R_types HO_3.out BK111.out (by decide)) (fun _ hk => hk.2) (.bool (true))) (fun _ hk => hk.2) (.slice A110_1 ((rd_T38 l0 x14_1).f1).length c110_1)) (fun _ hk => trivial)⟩, ⟨by (with_reducible repeat (first | refine blk_drewN ?_ _ | refine blk_drew ?_ | refine blk_alloc ?_ _)); refine blk_put (cs := #[.bool (true), .slice none 0 0]) ?_ 1 _ rfl; (with_reducible repeat (first | refine blk_drewN ?_ _ | refine blk_drew ?_ | refine blk_alloc ?_ _)); refine blk_put (cs := #[.bool false, .slice none 0 0]) ?_ 0 _ rfl; (with_reducible repeat (first | refine blk_drewN ?_ _ | refine blk_drew ?_ | refine blk_alloc ?_ _)); exact BK111.out⟩, ⟨by repeat (first | (with_reducible first | exact HB.out | apply below_alloc | apply pw_below_drewN | apply below_drew1 | refine below_set ?_ GE111.out) | exact HB.out)⟩⟩)
                · replace c12 := Bool.eq_false_iff.mpr c12
                  subst c12
                  have H1 : (path_Encode.j1 k1 x3_1 2 l0 (l0.length : Int) x14_1 false ((rd_T38 l0 x14_1).f1)) = some r := by rw [if_neg (show ¬ (false = true) by decide)] at H; exact H
                  clear H
                  have H := H1
                  clear H1
                  have H' := Aside0.mk H
                  clear H
                  go_wp2
                  go_meet
                  case rel => first | exact ⟨_, (2), (by first | rfl | (simp; done) | (simp [*]; done)), H', ⟨by have := HK1.out; first | omega | exact Nat.le_refl _⟩, ⟨by (with_reducible repeat (first | apply Kd.R_alloc | apply Kd.R_drewN | apply Kd.R_drew)); exact Kd.R_mono (Kd.R_far (p := ⟨gb111, 1, none⟩) (Kd.R_far (p := ⟨gb111, 0, none⟩) (Kd.R_types HO_3.out BK111.out (by decide)) (fun _ hk => hk.2) (.bool (false))) (fun _ hk => hk.2) (.slice A110_1 ((rd_T38 l0 x14_1).f1).length c110_1)) (fun _ hk => trivial)⟩, ⟨by (with_reducible repeat (first | refine blk_drewN ?_ _ | refine blk_drew ?_ | refine blk_alloc ?_ _)); refine blk_put (cs := #[.bool (false), .slice none 0 0]) ?_ 1 _ rfl; (with_reducible repeat (first | refine blk_drewN ?_ _ | refine blk_drew ?_ | refine blk_alloc ?_ _)); refine blk_put (cs := #[.bool false, .slice none 0 0]) ?_ 0 _ rfl; (with_reducible repeat (first | refine blk_drewN ?_ _ | refine blk_drew ?_ | refine blk_alloc ?_ _)); exact BK111.out⟩, ⟨by repeat (first | (with_reducible first | exact HB.out | apply below_alloc | apply pw_below_drewN | apply below_drew1 | refine below_set ?_ GE111.out) | exact HB.out)⟩⟩ | ((try rw [← Nbq11.out]); exact ⟨_, (2), (by first | rfl | (simp; done) | (simp [*]; done)), H', ⟨by have := HK1.out; first | omega | exact Nat.le_refl _⟩, ⟨by (with_reducible repeat (first | apply Kd.R_alloc | apply Kd.R_drewN | apply Kd.R_drew)); exact Kd.R_mono (Kd.R_far (p := ⟨gb111, 1, none⟩) (Kd.R_far (p := ⟨gb111, 0, none⟩) (Kd.R_types HO_3.out BK111.out (by decide)) (fun _ hk => hk.2) (.bool (false))) (fun _ hk => hk.2) (.slice A110_1 ((rd_T38 l0 x14_1).f1).length c110_1)) (fun _ hk => trivial)⟩, ⟨by (with_reducible repeat (first | refine blk_drewN ?_ _ | refine blk_drew ?_ | refine blk_alloc ?_ _)); refine blk_put (cs := #[.bool (false), .slice none 0 0]) ?_ 1 _ rfl; (with_reducible repeat (first | refine blk_drewN ?_ _ | refine blk_drew ?_ | refine blk_alloc ?_ _)); refine blk_put (cs := #[.bool false, .slice none 0 0]) ?_ 0 _ rfl; (with_reducible repeat (first | refine blk_drewN ?_ _ | refine blk_drew ?_ | refine blk_alloc ?_ _)); exact BK111.out⟩, ⟨by repeat (first | (with_reducible first | exact HB.out | apply below_alloc | apply pw_below_drewN | apply below_drew1 | refine below_set ?_ GE111.out) | exact HB.out)⟩⟩)
              case rest =>
                clear HC8
                try clear c1
                try clear p1
                try clear q1
                try clear hx1
                try clear p2
                try clear c3
                try clear c5
                try clear c5b0
                try clear c6
                try clear c6b0
                try clear c7
                try clear c7b0
                try clear c11
                try clear p11
                try clear q11
                try clear hx11
                try clear c12
                try clear hcz10_0
                try clear hcz10_1
                try clear hfz10_0
                try clear hfz10_1
                try clear hx110_0
                try clear hx110_1
                try clear p110
                try clear p2
                try clear q110
                obtain ⟨kq, x6_7, rfl, HA, HJ7, HO_3, BK111, HB⟩ := hcut
                cases kq with
                | zero => exact absurd HA.out (by simp [path_Encode.j1])
                | succ kj7 =>
                  have H := HA.out
                  clear HA
                  simp only [path_Encode.j1] at H
                  obtain ⟨y112, hy112⟩ : ∃ y_ : List Int, y_ = (([x6_7, ((((rd_T38 l0 x14_1).f1).length : Int)) % 256] : List Int)) := ⟨_, rfl⟩
                  replace H : (if x3_1.length + y112.length < 140737488355328 then (path_Encode.l1 kj7 (x3_1 ++ y112) l0 (l0.length : Int) x14_1 ((rd_T38 l0 x14_1).f1) (((rd_T38 l0 x14_1).f1).length : Int) 0) else (none)) = some r := by first | (rw [hy112]; with_reducible exact H) | (have H2_ := (Option.bind_some _ _).symm.trans H; rw [hy112]; with_reducible exact H2_) | (have H2_ := (Option.bind_some _ _).symm.trans H; with_reducible exact H2_) | with_reducible exact H | (rw [hy112]; exact H) | exact H
                  have Ny112 := Aside0.mk hy112
                  clear hy112
                  by_cases c13 : x3_1.length + y112.length < 140737488355328
                  · rw [if_pos c13] at H
                    have LMc13 := Aside0.mk c13
                    clear c13
                    obtain ⟨y115, hy115⟩ : ∃ y_ : List Int, y_ = (x3_1 ++ y112) := ⟨_, rfl⟩
                    replace H : (path_Encode.l1 kj7 y115 l0 (l0.length : Int) x14_1 ((rd_T38 l0 x14_1).f1) (((rd_T38 l0 x14_1).f1).length : Int) 0) = some r := by first | (rw [hy115]; with_reducible exact H) | (have H2_ := (Option.bind_some _ _).symm.trans H; rw [hy115]; with_reducible exact H2_) | (have H2_ := (Option.bind_some _ _).symm.trans H; with_reducible exact H2_) | with_reducible exact H | (rw [hy115]; exact H) | exact H
                    have Ny115 := Aside0.mk hy115
                    clear hy115
                    have H' := Aside0.mk H
                    clear H
                    have hcz14_0 : wc.cell? ⟨gb111, 0, none⟩ = some (.bool ((rd_T38 l0 x14_1).f0)) := (blk_cell BK111.out 0).trans rfl
                    have hcz14_1 : wc.cell? ⟨gb111, 1, none⟩ = some (.slice A110_1 ((rd_T38 l0 x14_1).f1).length c110_1) := (blk_cell BK111.out 1).trans rfl
                    have hfz14_0 := blk_frozen BK111.out 0
                    have hfz14_1 := blk_frozen BK111.out 1
                    go_wp2_with (first | ((with_reducible refine gate_dst (N := 26) rfl ?_); refine Kd.R_lit (Kd.int .u8) _ 5 ?hg (N := 26) ?hd (xs := ([x6_7, ((((rd_T38 l0 x14_1).f1).length : Int)) % 256] : List Int)) (inner := [.int .u8 x6_7, .int .u8 (((((rd_T38 l0 x14_1).f1).length : Int)) % 256)]) (ok := fun _ => True) (okp := fun _ => True) ?hr ?hp (fun _ hk => hk) trivial (Below.refl _ _) (Nat.le_refl _) (by simp) ?_; (case hd => rfl); (case hg => rfl); (case hr => first | (go_simp; done) | (go_simp; rfl) | (go_simp; simp [IntKind.wrap_u8, IntKind.wrap_u32]; done)); (case hp => exact (Reps.one (show Kd.M (Kd.int .u8) _ _ _ x6_7 [.int .u8 x6_7] from rfl) (Reps.one (show Kd.M (Kd.int .u8) _ _ _ (((((rd_T38 l0 x14_1).f1).length : Int)) % 256) [.int .u8 (((((rd_T38 l0 x14_1).f1).length : Int)) % 256)] from rfl) (Reps.none _ _)))); intro v113 w15 ho16 hb hg_ hnew_; clear hg_ hnew_; (first | rw [← Ny112.out] at ho16 | (simp only [Int.reduceToNat] at ho16; rw [← Ny112.out] at ho16)); have n0_ := Aside0.mk (Kd.R_elder' (by (with_reducible repeat (first | apply Kd.R_alloc | apply Kd.R_drewN | apply Kd.R_drew)); exact HO_3.out) (Kd.R_base ho16) hb); have n1_ := Aside0.mk (Kd.R_lower (Kd.R_new' ho16 (Kd.R_lt (by (with_reducible repeat (first | apply Kd.R_alloc | apply Kd.R_drewN | apply Kd.R_drew)); exact HO_3.out))) (below_size (by repeat (first | (with_reducible first | exact HB.out | apply below_alloc | apply pw_below_drewN | apply below_drew1 | refine below_set ?_ GE111.out) | exact HB.out)))); have n2_ := Aside0.mk (blk_below (g := gb111) (o := .cells #[.bool ((rd_T38 l0 x14_1).f0), .slice A110_1 ((rd_T38 l0 x14_1).f1).length c110_1] 38 (0, 0)) (by (with_reducible repeat (first | refine blk_drewN ?_ _ | refine blk_drew ?_ | refine blk_alloc ?_ _)); exact BK111.out) hb); have n3_ := Aside0.mk (below_step (by repeat (first | (with_reducible first | exact HB.out | apply below_alloc | apply pw_below_drewN | apply below_drew1 | refine below_set ?_ GE111.out) | exact HB.out)) hb); clear HO_3; clear BK111; clear HB; have HO_3 := n0_; have HO114 := n1_; have BK111 := n2_; have HB := n3_; clear n0_ n1_ n2_ n3_; clear hb ho16; obtain ⟨Ao18, co18, eo18⟩ := Kd.R_slice HO114.out; subst eo18) | ((with_reducible refine gate_builtin (b := .append) (xs := #[.tmp 20, .tmp 26]) rfl ?_); at_builtin; refine Kd.R_append_rows (Kd.int .u8) (w0 := w) w.heap.size rfl (.tmp 20) (.tmp 26) 25 5 (.int .u8 0) 1 rfl Try.underlying25 info5 rfl (by decide) (by omega) u3 x3_1 y112 _ _ _ (fun k_ => some k_ ≠ (.slice Ao18 y112.length co18 : Value).ownBlock) (fun _ => False) rfl rfl ?aO ?aR (fun _ _ h => h) (fun _ h => h.elim) ?aF ?aB ?aS ?aL ?_; (case aR => repeat (first | exact (Kd.R_reads' HO114.out).2.2 | (with_reducible refine Kd.C_alloc ?_ _) | (with_reducible refine Kd.C_drewN ?_ _) | (with_reducible refine Kd.C_drew ?_))); (case aB => exact (by repeat (first | (with_reducible first | exact HB.out | apply below_alloc | apply pw_below_drewN | apply below_drew1 | refine below_set ?_ GE111.out) | exact HB.out))); (case aF => exact (fun k_ hk => Kd.fresh' (Kd.R_lt (by (with_reducible repeat (first | apply Kd.R_alloc | apply Kd.R_drewN | apply Kd.R_drew)); exact HO114.out)) k_ hk)); (case aO => exact (by (with_reducible repeat (first | apply Kd.R_alloc | apply Kd.R_drewN | apply Kd.R_drew)); exact Kd.R_mono HO_3.out (fun _ hk => hk.2))); (case aS => exact (below_size (by repeat (first | (with_reducible first | exact HB.out | apply below_alloc | apply pw_below_drewN | apply below_drew1 | refine below_set ?_ GE111.out) | exact HB.out)))); (case aL => have := LMc13.out; omega); intro v116 w17 ho hb hg hat; rw [← Ny115.out] at ho; have n0_ := Aside0.mk (blk_grown (g := gb111) (o := .cells #[.bool ((rd_T38 l0 x14_1).f0), .slice A110_1 ((rd_T38 l0 x14_1).f1).length c110_1] 38 (0, 0)) (by (with_reducible repeat (first | refine blk_drewN ?_ _ | refine blk_drew ?_ | refine blk_alloc ?_ _)); exact BK111.out) hg (Kd.R_ne HO_3.out BK111.out (by decide))); have n1_ := Aside0.mk (Kd.R_after (ok := (fun _ => True)) (by (with_reducible repeat (first | apply Kd.R_alloc | apply Kd.R_drewN | apply Kd.R_drew)); exact HO114.out) hg hat); have n2_ := Aside0.mk (hb); have n3_ := Aside0.mk (ho); clear BK111; clear HO114; clear HB; clear HO_3; have BK111 := n0_; have HO114 := n1_; have HB := n2_; have HO117 := n3_; clear n0_ n1_ n2_ n3_; clear ho hb hg hat; have hcz19_0 : w17.cell? ⟨gb111, 0, none⟩ = some (.bool ((rd_T38 l0 x14_1).f0)) := (blk_cell BK111.out 0).trans rfl; have hcz19_1 : w17.cell? ⟨gb111, 1, none⟩ = some (.slice A110_1 ((rd_T38 l0 x14_1).f1).length c110_1) := (blk_cell BK111.out 1).trans rfl; have hfz19_0 := blk_frozen BK111.out 0; have hfz19_1 := blk_frozen BK111.out 1))
                    go_loopg [3, 31] kj7 (fun kq v3 v31 w' => ∃ (x3_3 : List Int) (x31_3 : Int), v31 = .int .i64 x31_3 ∧ Aside0 (path_Encode.l1 kq x3_3 l0 (l0.length : Int) x14_1 ((rd_T38 l0 x14_1).f1) (((rd_T38 l0 x14_1).f1).length : Int) x31_3 = some r) ∧ Aside0 (kq ≤ kj7) ∧ Aside0 (Kd.R (Kd.int .u8) 5 w' w.heap.size (fun _ => True) v3 x3_3) ∧ Aside0 (w'.heap[gb111]? = some (.cells #[.bool ((rd_T38 l0 x14_1).f0), (.slice A110_1 ((rd_T38 l0 x14_1).f1).length c110_1)] 38 (0, 0))) ∧ Aside0 (Below w.heap.size w w'))
                    case atStart => exact ⟨(y115), (0), (by first | rfl | (simp; done) | (simp [*]; done)), H', ⟨Nat.le_refl _⟩, ⟨by (with_reducible repeat (first | apply Kd.R_alloc | apply Kd.R_drewN | apply Kd.R_drew)); exact Kd.R_mono HO117.out (fun _ hk => trivial)⟩, ⟨by (with_reducible repeat (first | refine blk_drewN ?_ _ | refine blk_drew ?_ | refine blk_alloc ?_ _)); exact BK111.out⟩, ⟨by repeat (first | (with_reducible first | exact HB.out | apply below_alloc | apply pw_below_drewN | apply below_drew1 | refine below_set ?_ GE111.out) | exact HB.out)⟩⟩
                    case round =>
                      clear H'
                      try clear c1
                      try clear p1
                      try clear q1
                      try clear hx1
                      try clear p2
                      try clear c3
                      try clear c5
                      try clear c5b0
                      try clear c6
                      try clear c6b0
                      try clear c7
                      try clear c7b0
                      try clear c11
                      try clear p11
                      try clear q11
                      try clear hx11
                      try clear c12
                      try clear c13
                      try clear c14
                      try clear c15
                      try clear hcz10_0
                      try clear hcz10_1
                      try clear hcz14_0
                      try clear hcz14_1
                      try clear hcz19_0
                      try clear hcz19_1
                      try clear hfz10_0
                      try clear hfz10_1
                      try clear hfz14_0
                      try clear hfz14_1
                      try clear hfz19_0
                      try clear hfz19_1
                      try clear hx110_0
                      try clear hx110_1
                      try clear p1
                      try clear p11
                      try clear p110
                      try clear p2
                      try clear q1
                      try clear q11
                      try clear q110
                      obtain ⟨x3_3, x31_3, rfl, HA, HK3, HO_3, BK111, HB⟩ := hrel
                      cases gk with
                      | zero => exact absurd HA.out (by simp [path_Encode.l1])
                      | succ k3 =>
                        have H := HA.out
                        clear HA
                        simp only [path_Encode.l1] at H
                        by_cases c20 : x31_3 < (((rd_T38 l0 x14_1).f1).length : Int)
                        · rw [if_pos c20] at H
                          have c20b0 : decide (x31_3 < (((rd_T38 l0 x14_1).f1).length : Int)) = true := decide_eq_true c20
                          clear c20
                          by_cases c21 : 0 ≤ x31_3
                          · rw [if_pos c21] at H
                            have c21b0 : decide (0 ≤ x31_3) = true := decide_eq_true c21
                            clear c21
                            by_cases c22 : x31_3 < (((rd_T38 l0 x14_1).f1).length : Int)
                            · rw [if_pos c22] at H
                              have c22b0 : decide (x31_3 < (((rd_T38 l0 x14_1).f1).length : Int)) = true := decide_eq_true c22
                              clear c22
                              replace H := Option.bind_eq_some_iff.mp H
                              obtain ⟨t119, A230, H⟩ := H
                              replace H : (path_Encode.l1 k3 t119 l0 (l0.length : Int) x14_1 ((rd_T38 l0 x14_1).f1) (((rd_T38 l0 x14_1).f1).length : Int) (wrap64 (x31_3 + 1))) = some r := H
                              have A23 := Aside0.mk A230
                              clear A230
                              have H' := Aside0.mk H
                              clear H
                              have p118 : 0 ≤ (x31_3 : Int) := of_decide_eq_true (by first | (with_reducible assumption) | assumption)
                              have q118 : x31_3 < (((rd_T38 l0 x14_1).f1).length : Int) := of_decide_eq_true (by first | (with_reducible assumption) | assumption)
                              obtain ⟨ad118, e118, hx118_0⟩ := Kd.at_int HR110_1.out x31_3 p118 q118
                              cases e118
                              replace hx118_0 := (HB.out.cell (World.block_lt_of_cell? w _ hx118_0)).trans hx118_0
                              replace p118 := eq_true p118
                              replace q118 := eq_true q118
                              obtain ⟨Ao24, co24, eo24⟩ := Kd.R_slice HO_3.out
                              subst eo24
                              go_wp2_with (first | ((with_reducible refine gate_callee (f := 41) rfl ?_); refine goesL_ (some 38) rfl rfl Try.func41 (by kernel_rfl) rfl #[.slice Ao24 x3_3.length co24, .int .u32 ((rd ((rd_T38 l0 x14_1).f1) x31_3) % 4294967296)] rfl (by (try simp only [List.map_toArray, List.map_cons, List.map_nil]); first | done | rfl | (simp only [List.length_drop, List.length_take]; rfl)) ?_; (with_reducible refine (region_Put.calls (fun k_ => some k_ = (.slice Ao24 x3_3.length co24 : Value).ownBlock) (.slice Ao24 x3_3.length co24) x3_3 ((rd ((rd_T38 l0 x14_1).f1) x31_3) % 4294967296) t119 w _ ?side1 ?side2 A23.out).mono ?_); (case side1 => repeat (first | (with_reducible first | exact HB.out | apply below_alloc | apply pw_below_drewN | apply below_drew1 | refine below_set ?_ GE111.out) | exact HB.out)); (case side2 => exact Kd.R_tight rfl HO_3.out); rintro e w25 ⟨v120, rfl, ho0, hb, hkp⟩; refine ⟨_, rfl, ?_⟩; have n0_ := Aside0.mk (blk_kept (by (with_reducible repeat (first | refine blk_drewN ?_ _ | refine blk_drew ?_ | refine blk_alloc ?_ _)); exact BK111.out) hkp (fun hs_ => (fun e_ => (Kd.R_ne HO_3.out BK111.out (by decide)) e_) hs_)); have n1_ := Aside0.mk (Kd.R_mono (ok' := fun k_ => True) ho0 (fun k_ hk_ => trivial)); have n2_ := Aside0.mk (hb); clear BK111; clear HB; clear HO_3; have BK111 := n0_; have HO121 := n1_; have HB := n2_; clear n0_ n1_ n2_; (try clear hb); (try clear hkp); (try clear ho0)))
                              go_roundg k3
                              case measure => have := HK1.out; have := HJ7.out; have := HK3.out; omega
                              case rel => exact ⟨(t119), (wrap64 (x31_3 + 1)), (by first | rfl | (simp; done) | (simp [*]; done)), H', ⟨by have := HK1.out; have := HJ7.out; have := HK3.out; omega⟩, ⟨by (with_reducible repeat (first | apply Kd.R_alloc | apply Kd.R_drewN | apply Kd.R_drew)); exact HO121.out⟩, ⟨by (with_reducible repeat (first | refine blk_drewN ?_ _ | refine blk_drew ?_ | refine blk_alloc ?_ _)); exact BK111.out⟩, ⟨by repeat (first | (with_reducible first | exact HB.out | apply below_alloc | apply pw_below_drewN | apply below_drew1 | refine below_set ?_ GE111.out) | exact HB.out)⟩⟩
                            · rw [if_neg c22] at H
                              exact absurd H (by simp)
                          · rw [if_neg c21] at H
                            exact absurd H (by simp)
                        · rw [if_neg c20] at H
                          have c20b0 : decide (x31_3 < (((rd_T38 l0 x14_1).f1).length : Int)) = false := decide_eq_false c20
                          clear c20
                          have H' := Aside0.mk H
                          clear H
                          go_wp2
                          go_roundg k3
                          case measure => have := HK1.out; have := HJ7.out; have := HK3.out; omega
                          case rel => exact ⟨(x3_3), (wrap64 (x14_1 + 1)), (by first | rfl | (simp; done) | (simp [*]; done)), H', ⟨by have := HK1.out; have := HJ7.out; have := HK3.out; omega⟩, ⟨by (with_reducible repeat (first | apply Kd.R_alloc | apply Kd.R_drewN | apply Kd.R_drew)); exact HO_3.out⟩, ⟨by repeat (first | (with_reducible first | exact HB.out | apply below_alloc | apply pw_below_drewN | apply below_drew1 | refine below_set ?_ GE111.out) | exact HB.out)⟩⟩
                  · rw [if_neg c13] at H
                    exact absurd H (by simp)
            · rw [if_neg c7] at H
              exact absurd H (by simp)
          · rw [if_neg c6] at H
            exact absurd H (by simp)
        · rw [if_neg c5] at H
          have c5b0 : decide (x14_1 < (l0.length : Int)) = false := decide_eq_false c5
          clear c5
          obtain rfl := Option.some.inj H
          go_wp2
          go_ret
          exact ⟨_, by first | rfl | (simp [errW_none, errW_some] <;> rfl) | (simp [*, errW_none, errW_some] <;> rfl), by (with_reducible repeat (first | apply Kd.R_alloc | apply Kd.R_drewN | apply Kd.R_drew)); exact HO_3.out, by repeat (first | (with_reducible first | exact HB.out | apply below_alloc | apply pw_below_drewN | apply below_drew1) | exact HB.out)⟩
  · replace c3 := Bool.eq_false_iff.mpr c3
    subst c3
    have H1 : (some ([] : List Int)) = some r := by rw [if_neg (show ¬ (false = true) by decide)] at H; exact H
    clear H
    have H := H1
    clear H1
    obtain rfl := Option.some.inj H
    go_enter Try.func14, Try.ntmps14
    go_wp2_with (first | ((with_reducible refine gate_callee (f := 15) rfl ?_); refine goesL_ (some 10) rfl rfl Try.func15 (by kernel_rfl) rfl #[.slice A0 l0.length c0] rfl (by (try simp only [List.map_toArray, List.map_cons, List.map_nil]); first | done | rfl | (simp only [List.length_drop, List.length_take]; rfl)) ?_; (with_reducible refine (path_Good.calls _ _ l0 false _ ?side1 ?side2 A2.out).mono ?_); (case side1 => repeat (first | exact HR0.out | (with_reducible refine Kd.C_alloc ?_ _) | (with_reducible refine Kd.C_drewN ?_ _) | (with_reducible refine Kd.C_drew ?_))); (case side2 => exact HC0.out); rintro e w26 ⟨rfl, hb⟩; refine ⟨_, rfl, ?_⟩; have n0_ := Aside0.mk (below_step (by repeat (first | (with_reducible first | exact HB.out | apply below_alloc | apply pw_below_drewN | apply below_drew1) | exact HB.out)) hb); clear HB; have HB := n0_; clear n0_; (try clear hb); (try clear hb2); (try clear hk); (try clear hi)))
    go_ret
    exact ⟨_, by first | rfl | (simp [errW_none, errW_some] <;> rfl) | (simp [*, errW_none, errW_some] <;> rfl), by first | exact Kd.R_nil _ _ _ _ _ | exact Kd.N_nil _ _ _ _ _ | exact Kd.V_nil _ _ _ _ _ | exact Kd.Q_nil _ _ _ _ _ | exact Kd.S_nil _ _ _ _ _, by repeat (first | (with_reducible first | exact HB.out | apply below_alloc | apply pw_below_drewN | apply below_drew1) | exact HB.out)⟩

/-! ### region_Get: function 46 -/
-- FN rounds=0 making=0
-- IMPORT Derived.Test.YtpkckkmgnlhhcaaHelp
open Go.Proofs.Ytpkckkmgnlhhcaa.Help
def getS : List Int → Int → Int
  | [], v => v
  | b :: l, v => getS l (Go.bits .or .u32 ((v * 256) % 4294967296) (b % 4294967296))
def region_Get.f (l0 : List Int) : Option Int := some (getS (l0.take 4) 0)
set_option maxHeartbeats 2000000 in
set_option maxRecDepth 100000 in
theorem region_Get.calls (A0 : Option Addr) (c0 : Nat) (l0 : List Int) (r : Int) (w : World) (hr0 : Kd.C (Kd.int .u8) w A0 l0.length l0) (hc0 : l0.length ≤ c0) (h : region_Get.f l0 = some r) :
    Calls Try.prog 46 #[.slice A0 l0.length c0] w fun e w' => e = .returned (.int .u32 r) ∧ Drawn0 w w' := by
  obtain ⟨i0, hi0, _⟩ := info_parts info5
  have HM := Aside0.mk (Kd.C_max hr0)
  have HR := Aside0.mk hr0
  have HG := Aside0.mk (show getS (l0.take 4) 0 = r from Option.some.inj h)
  clear hr0 h
  obtain ⟨m, hm, hm4, hml, hmt, hcut⟩ : ∃ m : Nat, (m : Int) = (if 4 < (l0.length : Int) then 4 else (l0.length : Int)) ∧ m ≤ 4 ∧ m ≤ l0.length ∧ l0.take 4 = l0.take m ∧
      ∀ W : World, (Instr.slice 25 (.slice A0 l0.length c0) none (some (.int .i64 (m : Int))) none).run Try.prog W = .ok (.slice A0 m c0) W := by
    by_cases h4 : 4 < (l0.length : Int)
    · refine ⟨4, by rw [if_pos h4]; rfl, by omega, by omega, rfl, ?_⟩
      have := cut_to 25 5 .i64 (P := Try.prog) Try.underlying25 hi0 A0 l0.length c0 (4 : Int) (by omega) (by omega) hc0
      exact this
    · refine ⟨l0.length, by rw [if_neg h4], by omega, by omega, ?_, ?_⟩
      · rw [List.take_of_length_le (by omega), List.take_of_length_le (by omega)]
      · have := cut_to 25 5 .i64 (P := Try.prog) Try.underlying25 hi0 A0 l0.length c0 (l0.length : Int) (by omega) (by omega) hc0
        rw [Int.toNat_natCast] at this
        exact this
  have HC := Aside0.mk hc0
  have HM4 := Aside0.mk hm4
  have HML := Aside0.mk hml
  rw [hmt] at HG
  have HLEN := Aside0.mk (show (l0.take m).length = m by rw [List.length_take]; omega)
  have hmin : (if 4 < (l0.length : Int) then (4 : Int) else (l0.length : Int)) = (m : Int) := hm.symm
  clear hc0 hm4 hml hmt hm
  go_enter Try.func46, Try.ntmps46
  go_wp2_with fail
  go_loopg [3, 12] (m + 1) (fun kq v3 v12 wr => ∃ (v x : Int), v3 = .int .u32 v ∧ v12 = .int .i64 x ∧ Aside0 (0 ≤ x ∧ x + kq = m + 1 ∧ getS ((l0.take m).drop x.toNat) v = r) ∧ Drawn0 w wr)
  case atStart => exact ⟨0, 0, rfl, rfl, ⟨by simp, by simp, HG.out⟩, Drawn0.refl _⟩
  case round =>
    clear HG
    obtain ⟨v, x, rfl, rfl, HF, ⟨nd, rfl⟩⟩ := hrel
    by_cases hlt : x < (m : Int)
    · have q1 := hlt
      have p1 := HF.out.1
      have c4b0 : decide (x < (m : Int)) = true := decide_eq_true hlt
      have HL := Aside0.mk hlt
      have ql : x < (l0.length : Int) := by have := HML.out; omega
      obtain ⟨ad, e, h0⟩ := Kd.at_int (Kd.C_drewN HR.out nd) x p1 ql
      cases e
      have HD := Aside0.mk (show (l0.take m).drop x.toNat = rd l0 x :: (l0.take m).drop (x + 1).toNat by
        rw [drop_rd _ x p1 (by rw [HLEN.out]; exact q1), rd_take l0 m x p1 q1])
      have HF2 := Aside0.mk (show getS ((l0.take m).drop (x + 1).toNat) (Go.bits .or .u32 ((v * 256) % 4294967296) ((rd l0 x) % 4294967296)) = r by
        rw [← HF.out.2.2, HD.out]; rfl)
      clear hlt ql hcut hmin
      replace p1 := eq_true p1
      replace q1 := eq_true q1
      cases gk with
      | zero => exact absurd HF.out.2.1 (by have := HL.out; omega)
      | succ k1 =>
        go_wp2
        go_roundg k1
        case measure => omega
        case rel =>
          refine ⟨_, x + 1, rfl, (by have hw : wrap64 (x + 1) = x + 1 := (by have := HM4.out; have := HL.out; have := HF.out.1; unfold wrap64; omega); first | rfl | (simp [hw]; done)), ⟨by have := HF.out.1; omega, by have := HF.out.2.1; omega, HF2.out⟩, ⟨nd, rfl⟩⟩
    · have c4b0 : decide (x < (m : Int)) = false := decide_eq_false hlt
      have HE := Aside0.mk (show v = r by
        rw [← HF.out.2.2, List.drop_of_length_le (by rw [HLEN.out]; omega)]; rfl)
      clear hlt hcut hmin
      go_wp2
      go_ret
      exact ⟨by rw [← HE.out]; rfl, ⟨nd, rfl⟩⟩


end Go.Proofs.Ytpkckkmgnlhhcaa.PPathPrepends
