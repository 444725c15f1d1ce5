-- Lean text by a program of this repo (wip/tools/printx.py), out of Lean's own print of the translation
import Derived.Test.YtediicgkcgfghaaPDecideLessx0
import Derived.Test.YtediicgkcgfghaaPDecideLessx1
namespace Go.Proofs.Ytediicgkcgfghaa.PDecideLess
open Go.RowKit Go.Proofs.YtediicgkcgfghaaW.PrintWords Go.Proofs.YtediicgkcgfghaaW.PrintLast Go.Proofs.YtediicgkcgfghaaW.PrintMore
attribute [local go_sem] max2_int min2_int max_two min_two max_three min_three max_four min_four   -- for this text's walks alone
set_option linter.unusedVariables false
set_option linter.unusedSimpArgs false

/-! ### interregnumlaw15_small: function 8 -/
mutual
def interregnumlaw15_small.l0 : Nat → List (S41) → Int → Int → Option (Bool)
  | 0, _, _, _ => none
  | k + 1, x0, x3, x4 => if x4 < (x0.length : Int) then (interregnumlaw15_small.j1 k x0 x3 x4 (decide (x3 < 3000))) else (interregnumlaw15_small.j1 k x0 x3 x4 false)
def interregnumlaw15_small.j1 : Nat → List (S41) → Int → Int → Bool → Option (Bool)
  | 0, _, _, _, _ => none
  | k + 1, x0, x3, x4, x16 => if x16 = true then (if 0 ≤ x4 then (if x4 < (x0.length : Int) then (interregnumlaw15_small.l1 k x0 (wrap64 ((wrap64 (x3 + (((rd_T41 x0 x4).f2.f1).length : Int))) + (((rd_T41 x0 x4).f2.f5).length : Int))) x4 0 ((rd_T41 x0 x4).f2.f0) ((rd_T41 x0 x4).f2.f1) ((rd_T41 x0 x4).f2.f2) ((rd_T41 x0 x4).f2.f3) ((rd_T41 x0 x4).f2.f4) ((rd_T41 x0 x4).f2.f5) ((rd_T41 x0 x4).f2.f6)) else (none)) else (none)) else (some (decide (x3 < 3000)))
def interregnumlaw15_small.j3 : Nat → List (S41) → Int → Int → Int → List (S47) → Int → Int → Int → List Int → List (S102) → Option (Bool)
  | 0, _, _, _, _, _, _, _, _, _, _ => none
  | k + 1, x0, x3, x4, x103000, x103001, x103002, x103003, x103004, x103005, x103006 => (interregnumlaw15_bad.f x103004).bind fun t104 => (if t104 = true then (interregnumlaw15_small.j4 k x0 x3 x4 true) else ((interregnumlaw15_bad.f x103003).bind fun t105 => (if t105 = true then (interregnumlaw15_small.j4 k x0 x3 x4 true) else ((interregnumlaw15_bad.f x103000).bind fun t106 => (if t106 = true then (interregnumlaw15_small.j4 k x0 x3 x4 true) else (if 0 ≤ x4 then (if x4 < (x0.length : Int) then ((interregnumlaw15_bad.f ((rd_T41 x0 x4).f1)).bind fun t108 => (interregnumlaw15_small.j4 k x0 x3 x4 t108)) else (none)) else (none)))))))
def interregnumlaw15_small.j4 : Nat → List (S41) → Int → Int → Bool → Option (Bool)
  | 0, _, _, _, _ => none
  | k + 1, x0, x3, x4, x73 => if x73 = true then (some false) else (interregnumlaw15_small.l0 k x0 x3 (wrap64 (x4 + 1)))
def interregnumlaw15_small.l1 : Nat → List (S41) → Int → Int → Int → Int → List (S47) → Int → Int → Int → List Int → List (S102) → Option (Bool)
  | 0, _, _, _, _, _, _, _, _, _, _, _ => none
  | k + 1, x0, x3, x4, x6, x103000, x103001, x103002, x103003, x103004, x103005, x103006 => if x6 < (x103001.length : Int) then (if x3 < 3000 then (if 0 ≤ x6 then (interregnumlaw15_small.l1 k x0 (wrap64 (x3 + (((rd_T47 x103001 x6).f1).length : Int))) x4 (wrap64 (x6 + 1)) x103000 x103001 x103002 x103003 x103004 x103005 x103006) else (none)) else (interregnumlaw15_small.j3 k x0 x3 x4 x103000 x103001 x103002 x103003 x103004 x103005 x103006)) else (interregnumlaw15_small.j3 k x0 x3 x4 x103000 x103001 x103002 x103003 x103004 x103005 x103006)
end
def interregnumlaw15_small.f (k : Nat) (l0 : List (S41)) : Option (Bool) := interregnumlaw15_small.l0 k l0 (l0.length : Int) 0
theorem interregnumlaw15_small.mono_l : ∀ k, (∀ y0 y1 y2, LeO (interregnumlaw15_small.l0 k y0 y1 y2) (interregnumlaw15_small.l0 (k + 1) y0 y1 y2)) ∧ (∀ y0 y1 y2 y3, LeO (interregnumlaw15_small.j1 k y0 y1 y2 y3) (interregnumlaw15_small.j1 (k + 1) y0 y1 y2 y3)) ∧ (∀ y0 y1 y2 y3 y4 y5 y6 y7 y8 y9, LeO (interregnumlaw15_small.j3 k y0 y1 y2 y3 y4 y5 y6 y7 y8 y9) (interregnumlaw15_small.j3 (k + 1) y0 y1 y2 y3 y4 y5 y6 y7 y8 y9)) ∧ (∀ y0 y1 y2 y3, LeO (interregnumlaw15_small.j4 k y0 y1 y2 y3) (interregnumlaw15_small.j4 (k + 1) y0 y1 y2 y3)) ∧ (∀ y0 y1 y2 y3 y4 y5 y6 y7 y8 y9 y10, LeO (interregnumlaw15_small.l1 k y0 y1 y2 y3 y4 y5 y6 y7 y8 y9 y10) (interregnumlaw15_small.l1 (k + 1) y0 y1 y2 y3 y4 y5 y6 y7 y8 y9 y10))
  | 0 => ⟨fun _ _ _ r h => by simp [interregnumlaw15_small.l0] at h, fun _ _ _ _ r h => by simp [interregnumlaw15_small.j1] at h, fun _ _ _ _ _ _ _ _ _ _ r h => by simp [interregnumlaw15_small.j3] at h, fun _ _ _ _ r h => by simp [interregnumlaw15_small.j4] at h, fun _ _ _ _ _ _ _ _ _ _ _ r h => by simp [interregnumlaw15_small.l1] at h⟩
  | k + 1 => by
    obtain ⟨ih0, ih1, ih2, ih3, ih4⟩ := interregnumlaw15_small.mono_l k
    refine ⟨?_, ?_, ?_, ?_, ?_⟩
    · intro y0 y1 y2
      unfold interregnumlaw15_small.l0
      repeat' first
      | (with_reducible exact ih0 _ _ _)
      | (with_reducible exact ih1 _ _ _ _)
      | (with_reducible exact ih2 _ _ _ _ _ _ _ _ _ _)
      | (with_reducible exact ih3 _ _ _ _)
      | (with_reducible exact ih4 _ _ _ _ _ _ _ _ _ _ _)
      | (with_reducible exact LeO.refl _)
      | (with_reducible exact LeO.none _)
      | (with_reducible refine LeO.ite ?_ ?_)
      | (with_reducible refine LeO.bind ?_ (fun _ => ?_))
      | exact ih0 _ _ _
      | exact ih1 _ _ _ _
      | exact ih2 _ _ _ _ _ _ _ _ _ _
      | exact ih3 _ _ _ _
      | exact ih4 _ _ _ _ _ _ _ _ _ _ _
      | exact LeO.none _
      | refine LeO.ite ?_ ?_
      | refine LeO.bind ?_ (fun _ => ?_)
    · intro y0 y1 y2 y3
      unfold interregnumlaw15_small.j1
      repeat' first
      | (with_reducible exact ih0 _ _ _)
      | (with_reducible exact ih1 _ _ _ _)
      | (with_reducible exact ih2 _ _ _ _ _ _ _ _ _ _)
      | (with_reducible exact ih3 _ _ _ _)
      | (with_reducible exact ih4 _ _ _ _ _ _ _ _ _ _ _)
      | (with_reducible exact LeO.refl _)
      | (with_reducible exact LeO.none _)
      | (with_reducible refine LeO.ite ?_ ?_)
      | (with_reducible refine LeO.bind ?_ (fun _ => ?_))
      | exact ih0 _ _ _
      | exact ih1 _ _ _ _
      | exact ih2 _ _ _ _ _ _ _ _ _ _
      | exact ih3 _ _ _ _
      | exact ih4 _ _ _ _ _ _ _ _ _ _ _
      | exact LeO.none _
      | refine LeO.ite ?_ ?_
      | refine LeO.bind ?_ (fun _ => ?_)
    · intro y0 y1 y2 y3 y4 y5 y6 y7 y8 y9
      unfold interregnumlaw15_small.j3
      repeat' first
      | (with_reducible exact ih0 _ _ _)
      | (with_reducible exact ih1 _ _ _ _)
      | (with_reducible exact ih2 _ _ _ _ _ _ _ _ _ _)
      | (with_reducible exact ih3 _ _ _ _)
      | (with_reducible exact ih4 _ _ _ _ _ _ _ _ _ _ _)
      | (with_reducible exact LeO.refl _)
      | (with_reducible exact LeO.none _)
      | (with_reducible refine LeO.ite ?_ ?_)
      | (with_reducible refine LeO.bind ?_ (fun _ => ?_))
      | exact ih0 _ _ _
      | exact ih1 _ _ _ _
      | exact ih2 _ _ _ _ _ _ _ _ _ _
      | exact ih3 _ _ _ _
      | exact ih4 _ _ _ _ _ _ _ _ _ _ _
      | exact LeO.none _
      | refine LeO.ite ?_ ?_
      | refine LeO.bind ?_ (fun _ => ?_)
    · intro y0 y1 y2 y3
      unfold interregnumlaw15_small.j4
      repeat' first
      | (with_reducible exact ih0 _ _ _)
      | (with_reducible exact ih1 _ _ _ _)
      | (with_reducible exact ih2 _ _ _ _ _ _ _ _ _ _)
      | (with_reducible exact ih3 _ _ _ _)
      | (with_reducible exact ih4 _ _ _ _ _ _ _ _ _ _ _)
      | (with_reducible exact LeO.refl _)
      | (with_reducible exact LeO.none _)
      | (with_reducible refine LeO.ite ?_ ?_)
      | (with_reducible refine LeO.bind ?_ (fun _ => ?_))
      | exact ih0 _ _ _
      | exact ih1 _ _ _ _
      | exact ih2 _ _ _ _ _ _ _ _ _ _
      | exact ih3 _ _ _ _
      | exact ih4 _ _ _ _ _ _ _ _ _ _ _
      | exact LeO.none _
      | refine LeO.ite ?_ ?_
      | refine LeO.bind ?_ (fun _ => ?_)
    · intro y0 y1 y2 y3 y4 y5 y6 y7 y8 y9 y10
      unfold interregnumlaw15_small.l1
      repeat' first
      | (with_reducible exact ih0 _ _ _)
      | (with_reducible exact ih1 _ _ _ _)
      | (with_reducible exact ih2 _ _ _ _ _ _ _ _ _ _)
      | (with_reducible exact ih3 _ _ _ _)
      | (with_reducible exact ih4 _ _ _ _ _ _ _ _ _ _ _)
      | (with_reducible exact LeO.refl _)
      | (with_reducible exact LeO.none _)
      | (with_reducible refine LeO.ite ?_ ?_)
      | (with_reducible refine LeO.bind ?_ (fun _ => ?_))
      | exact ih0 _ _ _
      | exact ih1 _ _ _ _
      | exact ih2 _ _ _ _ _ _ _ _ _ _
      | exact ih3 _ _ _ _
      | exact ih4 _ _ _ _ _ _ _ _ _ _ _
      | exact LeO.none _
      | refine LeO.ite ?_ ?_
      | refine LeO.bind ?_ (fun _ => ?_)
theorem interregnumlaw15_small.mono : ∀ a0 k, LeO (interregnumlaw15_small.f k a0) (interregnumlaw15_small.f (k + 1) a0) := by
  intro a0 k
  obtain ⟨ih0, ih1, ih2, ih3, ih4⟩ := interregnumlaw15_small.mono_l k
  unfold interregnumlaw15_small.f
  repeat' first
      | (with_reducible exact ih0 _ _ _)
      | (with_reducible exact ih1 _ _ _ _)
      | (with_reducible exact ih2 _ _ _ _ _ _ _ _ _ _)
      | (with_reducible exact ih3 _ _ _ _)
      | (with_reducible exact ih4 _ _ _ _ _ _ _ _ _ _ _)
      | (with_reducible exact LeO.refl _)
      | (with_reducible exact LeO.none _)
      | (with_reducible refine LeO.ite ?_ ?_)
      | (with_reducible refine LeO.bind ?_ (fun _ => ?_))
      | exact ih0 _ _ _
      | exact ih1 _ _ _ _
      | exact ih2 _ _ _ _ _ _ _ _ _ _
      | exact ih3 _ _ _ _
      | exact ih4 _ _ _ _ _ _ _ _ _ _ _
      | exact LeO.none _
      | refine LeO.ite ?_ ?_
      | refine LeO.bind ?_ (fun _ => ?_)
set_option maxHeartbeats 8000000 in
set_option maxRecDepth 100000 in
theorem interregnumlaw15_small.calls (k : Nat) (A0 : Option Addr) (c0 : Nat) (l0 : List (S41)) (r : Bool) (w : World) (hr0 : Kd.C k41 w A0 l0.length l0) (hc0 : l0.length ≤ c0) (h : interregnumlaw15_small.f k l0 = some r) :
    Calls Try.prog 8 #[.slice A0 l0.length c0] w fun e w' => e = .returned (.bool r) ∧ Below w.heap.size w w' := by
  have hu39 := Try.underlying39
  have HR0 := Aside0.mk hr0
  have HC0 := Aside0.mk hc0
  clear hr0 hc0
  have HB := Aside0.mk (Below.refl w.heap.size w)
  have H : (interregnumlaw15_small.l0 k l0 (l0.length : Int) 0) = some r := h
  clear h
  have H' := Aside0.mk H
  clear H
  go_enter Try.func8, Try.ntmps8
  go_wp2
  go_loopg [3, 4] k (fun kq v3 v4 w' => ∃ (x3_1 : Int) (x4_1 : Int), v3 = .int .i64 x3_1 ∧ v4 = .int .i64 x4_1 ∧ Aside0 (interregnumlaw15_small.l0 kq l0 x3_1 x4_1 = some r) ∧ Aside0 (kq ≤ k) ∧ Aside0 (Below w.heap.size w w'))
  case atStart => exact ⟨((l0.length : Int)), (0), (by first | rfl | (simp; done) | (simp [*]; done)), (by first | rfl | (simp; done) | (simp [*]; done)), H', ⟨Nat.le_refl _⟩, ⟨by repeat (first | (with_reducible first | exact HB.out | apply below_alloc | apply pw_below_drewN | apply below_drew1) | exact HB.out)⟩⟩
  case round =>
    clear H'
    obtain ⟨x3_1, x4_1, rfl, rfl, HA, HK1, HB⟩ := hrel
    cases gk with
    | zero => exact absurd HA.out (by simp [interregnumlaw15_small.l0])
    | succ k1 =>
      have H := HA.out
      clear HA
      simp only [interregnumlaw15_small.l0] at H
      have HC2 := Aside0.mk H
      clear H
      go_upto_region 3 with (fail)
      go_cut [16] (fun v16 wc => ∃ (kq : Nat) (x16_1 : Bool), v16 = .bool x16_1 ∧ Aside0 (interregnumlaw15_small.j1 kq l0 x3_1 x4_1 x16_1 = some r) ∧ Aside0 (kq ≤ k1) ∧ Aside0 (Below w.heap.size w wc))
      case first =>
        have H := HC2.out
        clear HC2
        by_cases c3 : x4_1 < (l0.length : Int)
        · rw [if_pos c3] at H
          have c3b0 : decide (x4_1 < (l0.length : Int)) = true := decide_eq_true c3
          clear c3
          (first | rw [c3b0] | (simp only [i64_w, i32_w]; rw [c3b0]) | skip)
          have H' := Aside0.mk H
          clear H
          go_wp2
          go_meet
          case rel => exact ⟨_, (decide (x3_1 < 3000)), (by first | rfl | (simp; done) | (simp [*]; done)), H', ⟨by have := HK1.out; first | omega | exact Nat.le_refl _⟩, ⟨by repeat (first | (with_reducible first | exact HB.out | apply below_alloc | apply pw_below_drewN | apply below_drew1) | exact HB.out)⟩⟩
        · rw [if_neg c3] at H
          have c3b0 : decide (x4_1 < (l0.length : Int)) = false := decide_eq_false c3
          clear c3
          (first | rw [c3b0] | (simp only [i64_w, i32_w]; rw [c3b0]) | skip)
          have H' := Aside0.mk H
          clear H
          go_wp2
          go_meet
          case rel => exact ⟨_, (false), (by first | rfl | (simp; done) | (simp [*]; done)), H', ⟨by have := HK1.out; first | omega | exact Nat.le_refl _⟩, ⟨by repeat (first | (with_reducible first | exact HB.out | apply below_alloc | apply pw_below_drewN | apply below_drew1) | exact HB.out)⟩⟩
      case rest =>
        clear HC2
        try clear p2
        try clear c3
        try clear c3b0
        obtain ⟨kq, x16_1, rfl, HA, HJ1, HB⟩ := hcut
        cases kq with
        | zero => exact absurd HA.out (by simp [interregnumlaw15_small.j1])
        | succ kj1 =>
          have H := HA.out
          clear HA
          simp only [interregnumlaw15_small.j1] at H
          by_cases c4 : x16_1 = true
          · subst c4
            have H1 : (if 0 ≤ x4_1 then (if x4_1 < (l0.length : Int) then (interregnumlaw15_small.l1 kj1 l0 (wrap64 ((wrap64 (x3_1 + (((rd_T41 l0 x4_1).f2.f1).length : Int))) + (((rd_T41 l0 x4_1).f2.f5).length : Int))) x4_1 0 ((rd_T41 l0 x4_1).f2.f0) ((rd_T41 l0 x4_1).f2.f1) ((rd_T41 l0 x4_1).f2.f2) ((rd_T41 l0 x4_1).f2.f3) ((rd_T41 l0 x4_1).f2.f4) ((rd_T41 l0 x4_1).f2.f5) ((rd_T41 l0 x4_1).f2.f6)) else (none)) else (none)) = some r := by rw [if_pos rfl] at H; exact H
            clear H
            have H := H1
            clear H1
            by_cases c5 : 0 ≤ x4_1
            · rw [if_pos c5] at H
              have c5b0 : decide (0 ≤ x4_1) = true := decide_eq_true c5
              clear c5
              by_cases c6 : x4_1 < (l0.length : Int)
              · rw [if_pos c6] at H
                have c6b0 : decide (x4_1 < (l0.length : Int)) = true := decide_eq_true c6
                clear c6
                have HC7 := Aside0.mk H
                clear H
                have p101 : 0 ≤ (x4_1 : Int) := of_decide_eq_true (by first | (with_reducible assumption) | assumption)
                have q101 : x4_1 < (l0.length : Int) := of_decide_eq_true (by first | (with_reducible assumption) | assumption)
                obtain ⟨ad101, A101_4, c101_4, A101_8, c101_8, A101_9, c101_9, e101, hx101_0, hx101_1, hx101_2, hx101_3, hx101_4, hx101_5, hx101_6, hx101_7, hx101_8, hx101_9, hx101_10, hl101_4, hi101_4, hl101_8, hi101_8, hl101_9, hi101_9⟩ := at_T41 HR0.out x4_1 p101 q101
                cases e101
                replace hx101_0 := (HB.out.cell (World.block_lt_of_cell? w _ hx101_0)).trans hx101_0
                replace hx101_1 := (HB.out.cell (World.block_lt_of_cell? w _ hx101_1)).trans hx101_1
                replace hx101_2 := (HB.out.cell (World.block_lt_of_cell? w _ hx101_2)).trans hx101_2
                replace hx101_3 := (HB.out.cell (World.block_lt_of_cell? w _ hx101_3)).trans hx101_3
                replace hx101_4 := (HB.out.cell (World.block_lt_of_cell? w _ hx101_4)).trans hx101_4
                replace hx101_5 := (HB.out.cell (World.block_lt_of_cell? w _ hx101_5)).trans hx101_5
                replace hx101_6 := (HB.out.cell (World.block_lt_of_cell? w _ hx101_6)).trans hx101_6
                replace hx101_7 := (HB.out.cell (World.block_lt_of_cell? w _ hx101_7)).trans hx101_7
                replace hx101_8 := (HB.out.cell (World.block_lt_of_cell? w _ hx101_8)).trans hx101_8
                replace hx101_9 := (HB.out.cell (World.block_lt_of_cell? w _ hx101_9)).trans hx101_9
                replace hx101_10 := (HB.out.cell (World.block_lt_of_cell? w _ hx101_10)).trans hx101_10
                have HR101_4 := Aside0.mk hi101_4
                have HC101_4 := Aside0.mk hl101_4
                clear hi101_4 hl101_4
                have HR101_8 := Aside0.mk hi101_8
                have HC101_8 := Aside0.mk hl101_8
                clear hi101_8 hl101_8
                have HR101_9 := Aside0.mk hi101_9
                have HC101_9 := Aside0.mk hl101_9
                clear hi101_9 hl101_9
                replace p101 := eq_true p101
                replace q101 := eq_true q101
                go_upto_block 2 with (first | ((with_reducible refine gate_dst (N := 5) rfl ?_); refine box_event ?hg (N := 5) ?hd (cs := #[.int .i64 0, .slice none 0 0, .int .u32 0, .int .i64 0, .int .i64 0, .slice none 0 0, .slice none 0 0]) (t := 39) ?hr ?_; (case hd => rfl); (case hg => rfl); (case hr => first | (go_simp; done) | (go_simp; rfl) | (go_simp; simp [IntKind.wrap_u8, IntKind.wrap_u32]; done)); intro gb102 hg w8 hbox hb; have n0_ := Aside0.mk (below_step (by repeat (first | (with_reducible first | exact HB.out | apply below_alloc | apply pw_below_drewN | apply below_drew1) | exact HB.out)) hb); have n1_ := Aside0.mk (hbox); have n2_ := Aside0.mk ((by rw [hg]; exact (below_size (by repeat (first | (with_reducible first | exact HB.out | apply below_alloc | apply pw_below_drewN | apply below_drew1) | exact HB.out))) : w.heap.size ≤ gb102)); have n3_ := Aside0.mk ((by rw [hg]; exact (below_size (by repeat (first | (with_reducible first | exact HB.out | apply below_alloc | apply pw_below_drewN | apply below_drew1) | exact HB.out))) : w.heap.size ≤ gb102)); clear HB; have HB := n0_; have BK102 := n1_; have GW102 := n2_; have GE102 := n3_; clear n0_ n1_ n2_ n3_; clear hb hbox hg; have hcz9_0 : w8.cell? ⟨gb102, 0, none⟩ = some (.int .i64 0) := (blk_cell BK102.out 0).trans rfl; have hcz9_1 : w8.cell? ⟨gb102, 1, none⟩ = some (.slice none 0 0) := (blk_cell BK102.out 1).trans rfl; have hcz9_2 : w8.cell? ⟨gb102, 2, none⟩ = some (.int .u32 0) := (blk_cell BK102.out 2).trans rfl; have hcz9_3 : w8.cell? ⟨gb102, 3, none⟩ = some (.int .i64 0) := (blk_cell BK102.out 3).trans rfl; have hcz9_4 : w8.cell? ⟨gb102, 4, none⟩ = some (.int .i64 0) := (blk_cell BK102.out 4).trans rfl; have hcz9_5 : w8.cell? ⟨gb102, 5, none⟩ = some (.slice none 0 0) := (blk_cell BK102.out 5).trans rfl; have hcz9_6 : w8.cell? ⟨gb102, 6, none⟩ = some (.slice none 0 0) := (blk_cell BK102.out 6).trans rfl; have hfz9_0 := blk_frozen BK102.out 0; have hfz9_1 := blk_frozen BK102.out 1; have hfz9_2 := blk_frozen BK102.out 2; have hfz9_3 := blk_frozen BK102.out 3; have hfz9_4 := blk_frozen BK102.out 4; have hfz9_5 := blk_frozen BK102.out 5; have hfz9_6 := blk_frozen BK102.out 6))
                (try simp only [Act.put, List.setIfInBounds_toArray, List.set_cons_zero, List.set_cons_succ])
                go_cut [3] (fun v3 wc => ∃ (kq : Nat) (x3_6 : Int), v3 = .int .i64 x3_6 ∧ Aside0 (interregnumlaw15_small.j3 kq l0 x3_6 x4_1 ((rd_T41 l0 x4_1).f2.f0) ((rd_T41 l0 x4_1).f2.f1) ((rd_T41 l0 x4_1).f2.f2) ((rd_T41 l0 x4_1).f2.f3) ((rd_T41 l0 x4_1).f2.f4) ((rd_T41 l0 x4_1).f2.f5) ((rd_T41 l0 x4_1).f2.f6) = some r) ∧ Aside0 (kq ≤ kj1) ∧ Aside0 (wc.heap[gb102]? = some (.cells #[.int .i64 ((rd_T41 l0 x4_1).f2.f0), (.slice A101_4 ((rd_T41 l0 x4_1).f2.f1).length c101_4), .int .u32 ((rd_T41 l0 x4_1).f2.f2), .int .i64 ((rd_T41 l0 x4_1).f2.f3), .int .i64 ((rd_T41 l0 x4_1).f2.f4), (.slice A101_8 ((rd_T41 l0 x4_1).f2.f5).length c101_8), (.slice A101_9 ((rd_T41 l0 x4_1).f2.f6).length c101_9)] 39 (0, 0))) ∧ Aside0 (Below w.heap.size w wc))
                case first =>
                  have H := HC7.out
                  clear HC7
                  have H' := Aside0.mk H
                  clear H
                  go_wp2
                  go_loopg [3, 6] kj1 (fun kq v3 v6 w' => ∃ (x3_3 : Int) (x6_3 : Int), v3 = .int .i64 x3_3 ∧ v6 = .int .i64 x6_3 ∧ Aside0 (interregnumlaw15_small.l1 kq l0 x3_3 x4_1 x6_3 ((rd_T41 l0 x4_1).f2.f0) ((rd_T41 l0 x4_1).f2.f1) ((rd_T41 l0 x4_1).f2.f2) ((rd_T41 l0 x4_1).f2.f3) ((rd_T41 l0 x4_1).f2.f4) ((rd_T41 l0 x4_1).f2.f5) ((rd_T41 l0 x4_1).f2.f6) = some r) ∧ Aside0 (kq ≤ kj1) ∧ Aside0 (w'.heap[gb102]? = some (.cells #[.int .i64 ((rd_T41 l0 x4_1).f2.f0), (.slice A101_4 ((rd_T41 l0 x4_1).f2.f1).length c101_4), .int .u32 ((rd_T41 l0 x4_1).f2.f2), .int .i64 ((rd_T41 l0 x4_1).f2.f3), .int .i64 ((rd_T41 l0 x4_1).f2.f4), (.slice A101_8 ((rd_T41 l0 x4_1).f2.f5).length c101_8), (.slice A101_9 ((rd_T41 l0 x4_1).f2.f6).length c101_9)] 39 (0, 0))) ∧ Aside0 (Below w.heap.size w w'))
                  case atStart => exact ⟨(wrap64 ((wrap64 (x3_1 + (((rd_T41 l0 x4_1).f2.f1).length : Int))) + (((rd_T41 l0 x4_1).f2.f5).length : Int))), (0), (by first | rfl | (simp; done) | (simp [*]; done)), (by first | rfl | (simp; done) | (simp [*]; done)), H', ⟨Nat.le_refl _⟩, ⟨by (with_reducible repeat (first | refine blk_drewN ?_ _ | refine blk_drew ?_ | refine blk_alloc ?_ _)); refine blk_put (cs := #[.int .i64 ((rd_T41 l0 x4_1).f2.f0), .slice A101_4 ((rd_T41 l0 x4_1).f2.f1).length c101_4, .int .u32 ((rd_T41 l0 x4_1).f2.f2), .int .i64 ((rd_T41 l0 x4_1).f2.f3), .int .i64 ((rd_T41 l0 x4_1).f2.f4), .slice A101_8 ((rd_T41 l0 x4_1).f2.f5).length c101_8, .slice none 0 0]) ?_ 6 _ rfl; (with_reducible repeat (first | refine blk_drewN ?_ _ | refine blk_drew ?_ | refine blk_alloc ?_ _)); refine blk_put (cs := #[.int .i64 ((rd_T41 l0 x4_1).f2.f0), .slice A101_4 ((rd_T41 l0 x4_1).f2.f1).length c101_4, .int .u32 ((rd_T41 l0 x4_1).f2.f2), .int .i64 ((rd_T41 l0 x4_1).f2.f3), .int .i64 ((rd_T41 l0 x4_1).f2.f4), .slice none 0 0, .slice none 0 0]) ?_ 5 _ rfl; (with_reducible repeat (first | refine blk_drewN ?_ _ | refine blk_drew ?_ | refine blk_alloc ?_ _)); refine blk_put (cs := #[.int .i64 ((rd_T41 l0 x4_1).f2.f0), .slice A101_4 ((rd_T41 l0 x4_1).f2.f1).length c101_4, .int .u32 ((rd_T41 l0 x4_1).f2.f2), .int .i64 ((rd_T41 l0 x4_1).f2.f3), .int .i64 0, .slice none 0 0, .slice none 0 0]) ?_ 4 _ rfl; (with_reducible repeat (first | refine blk_drewN ?_ _ | refine blk_drew ?_ | refine blk_alloc ?_ _)); refine blk_put (cs := #[.int .i64 ((rd_T41 l0 x4_1).f2.f0), .slice A101_4 ((rd_T41 l0 x4_1).f2.f1).length c101_4, .int .u32 ((rd_T41 l0 x4_1).f2.f2), .int .i64 0, .int .i64 0, .slice none 0 0, .slice none 0 0]) ?_ 3 _ rfl; (with_reducible repeat (first | refine blk_drewN ?_ _ | refine blk_drew ?_ | refine blk_alloc ?_ _)); refine blk_put (cs := #[.int .i64 ((rd_T41 l0 x4_1).f2.f0), .slice A101_4 ((rd_T41 l0 x4_1).f2.f1).length c101_4, .int .u32 0, .int .i64 0, .int .i64 0, .slice none 0 0, .slice none 0 0]) ?_ 2 _ rfl; (with_reducible repeat (first | refine blk_drewN ?_ _ | refine blk_drew ?_ | refine blk_alloc ?_ _)); refine blk_put (cs := #[.int .i64 ((rd_T41 l0 x4_1).f2.f0), .slice none 0 0, .int .u32 0, .int .i64 0, .int .i64 0, .slice none 0 0, .slice none 0 0]) ?_ 1 _ rfl; (with_reducible repeat (first | refine blk_drewN ?_ _ | refine blk_drew ?_ | refine blk_alloc ?_ _)); refine blk_put (cs := #[.int .i64 0, .slice none 0 0, .int .u32 0, .int .i64 0, .int .i64 0, .slice none 0 0, .slice none 0 0]) ?_ 0 _ rfl; (with_reducible repeat (first | refine blk_drewN ?_ _ | refine blk_drew ?_ | refine blk_alloc ?_ _)); exact BK102.out⟩, ⟨by repeat (first | (with_reducible first | exact HB.out | apply below_alloc | apply pw_below_drewN | apply below_drew1 | refine below_set ?_ GE102.out) | exact HB.out)⟩⟩
                  case round =>
                    clear H'
                    try clear c1
                    try clear p1
                    try clear q1
                    try clear hx1
                    try clear p2
                    try clear c3
                    try clear c3b0
                    try clear c4
                    try clear c5
                    try clear c5b0
                    try clear c6
                    try clear c6b0
                    try clear p6
                    try clear c8
                    try clear hcz9_0
                    try clear hcz9_1
                    try clear hcz9_2
                    try clear hcz9_3
                    try clear hcz9_4
                    try clear hcz9_5
                    try clear hcz9_6
                    try clear hfz9_0
                    try clear hfz9_1
                    try clear hfz9_2
                    try clear hfz9_3
                    try clear hfz9_4
                    try clear hfz9_5
                    try clear hfz9_6
                    try clear hx101_0
                    try clear hx101_1
                    try clear hx101_10
                    try clear hx101_2
                    try clear hx101_3
                    try clear hx101_4
                    try clear hx101_5
                    try clear hx101_6
                    try clear hx101_7
                    try clear hx101_8
                    try clear hx101_9
                    try clear p101
                    try clear p2
                    try clear q101
                    obtain ⟨x3_3, x6_3, rfl, rfl, HA, HK3, BK102, HB⟩ := hrel
                    cases gk with
                    | zero => exact absurd HA.out (by simp [interregnumlaw15_small.l1])
                    | succ k3 =>
                      have H := HA.out
                      clear HA
                      simp only [interregnumlaw15_small.l1] at H
                      by_cases c10 : x6_3 < (((rd_T41 l0 x4_1).f2.f1).length : Int)
                      · rw [if_pos c10] at H
                        have c10b0 : decide (x6_3 < (((rd_T41 l0 x4_1).f2.f1).length : Int)) = true := decide_eq_true c10
                        clear c10
                        (first | rw [c10b0] | (simp only [i64_w, i32_w]; rw [c10b0]) | skip)
                        by_cases c11 : x3_3 < 3000
                        · rw [if_pos c11] at H
                          have c11b0 : decide (x3_3 < 3000) = true := decide_eq_true c11
                          clear c11
                          by_cases c12 : 0 ≤ x6_3
                          · rw [if_pos c12] at H
                            have c12b0 : decide (0 ≤ x6_3) = true := decide_eq_true c12
                            clear c12
                            have H' := Aside0.mk H
                            clear H
                            have hcz13_0 : wr.cell? ⟨gb102, 0, none⟩ = some (.int .i64 ((rd_T41 l0 x4_1).f2.f0)) := (blk_cell BK102.out 0).trans rfl
                            have hcz13_1 : wr.cell? ⟨gb102, 1, none⟩ = some (.slice A101_4 ((rd_T41 l0 x4_1).f2.f1).length c101_4) := (blk_cell BK102.out 1).trans rfl
                            have hcz13_2 : wr.cell? ⟨gb102, 2, none⟩ = some (.int .u32 ((rd_T41 l0 x4_1).f2.f2)) := (blk_cell BK102.out 2).trans rfl
                            have hcz13_3 : wr.cell? ⟨gb102, 3, none⟩ = some (.int .i64 ((rd_T41 l0 x4_1).f2.f3)) := (blk_cell BK102.out 3).trans rfl
                            have hcz13_4 : wr.cell? ⟨gb102, 4, none⟩ = some (.int .i64 ((rd_T41 l0 x4_1).f2.f4)) := (blk_cell BK102.out 4).trans rfl
                            have hcz13_5 : wr.cell? ⟨gb102, 5, none⟩ = some (.slice A101_8 ((rd_T41 l0 x4_1).f2.f5).length c101_8) := (blk_cell BK102.out 5).trans rfl
                            have hcz13_6 : wr.cell? ⟨gb102, 6, none⟩ = some (.slice A101_9 ((rd_T41 l0 x4_1).f2.f6).length c101_9) := (blk_cell BK102.out 6).trans rfl
                            have hfz13_0 := blk_frozen BK102.out 0
                            have hfz13_1 := blk_frozen BK102.out 1
                            have hfz13_2 := blk_frozen BK102.out 2
                            have hfz13_3 := blk_frozen BK102.out 3
                            have hfz13_4 := blk_frozen BK102.out 4
                            have hfz13_5 := blk_frozen BK102.out 5
                            have hfz13_6 := blk_frozen BK102.out 6
                            have p103 : 0 ≤ (x6_3 : Int) := of_decide_eq_true (by first | (with_reducible assumption) | assumption)
                            have q103 : x6_3 < (((rd_T41 l0 x4_1).f2.f1).length : Int) := of_decide_eq_true (by first | (with_reducible assumption) | assumption)
                            obtain ⟨ad103, A103_1, c103_1, e103, hx103_0, hx103_1, hl103_1, hi103_1⟩ := at_T47 HR101_4.out x6_3 p103 q103
                            cases e103
                            replace hx103_0 := (HB.out.cell (World.block_lt_of_cell? w _ hx103_0)).trans hx103_0
                            replace hx103_1 := (HB.out.cell (World.block_lt_of_cell? w _ hx103_1)).trans hx103_1
                            have HR103_1 := Aside0.mk hi103_1
                            have HC103_1 := Aside0.mk hl103_1
                            clear hi103_1 hl103_1
                            replace p103 := eq_true p103
                            replace q103 := eq_true q103
                            go_wp2
                            go_roundg k3
                            case measure => have := HK1.out; have := HJ1.out; have := HK3.out; omega
                            case rel => exact ⟨(wrap64 (x3_3 + (((rd_T47 ((rd_T41 l0 x4_1).f2.f1) x6_3).f1).length : Int))), (wrap64 (x6_3 + 1)), (by first | rfl | (simp; done) | (simp [*]; done)), (by first | rfl | (simp; done) | (simp [*]; done)), H', ⟨by have := HK1.out; have := HJ1.out; have := HK3.out; omega⟩, ⟨by (with_reducible repeat (first | refine blk_drewN ?_ _ | refine blk_drew ?_ | refine blk_alloc ?_ _)); exact BK102.out⟩, ⟨by repeat (first | (with_reducible first | exact HB.out | apply below_alloc | apply pw_below_drewN | apply below_drew1 | refine below_set ?_ GE102.out) | exact HB.out)⟩⟩
                          · rw [if_neg c12] at H
                            exact absurd H (by simp)
                        · rw [if_neg c11] at H
                          have c11b0 : decide (x3_3 < 3000) = false := decide_eq_false c11
                          clear c11
                          have H' := Aside0.mk H
                          clear H
                          have hcz14_0 : wr.cell? ⟨gb102, 0, none⟩ = some (.int .i64 ((rd_T41 l0 x4_1).f2.f0)) := (blk_cell BK102.out 0).trans rfl
                          have hcz14_1 : wr.cell? ⟨gb102, 1, none⟩ = some (.slice A101_4 ((rd_T41 l0 x4_1).f2.f1).length c101_4) := (blk_cell BK102.out 1).trans rfl
                          have hcz14_2 : wr.cell? ⟨gb102, 2, none⟩ = some (.int .u32 ((rd_T41 l0 x4_1).f2.f2)) := (blk_cell BK102.out 2).trans rfl
                          have hcz14_3 : wr.cell? ⟨gb102, 3, none⟩ = some (.int .i64 ((rd_T41 l0 x4_1).f2.f3)) := (blk_cell BK102.out 3).trans rfl
                          have hcz14_4 : wr.cell? ⟨gb102, 4, none⟩ = some (.int .i64 ((rd_T41 l0 x4_1).f2.f4)) := (blk_cell BK102.out 4).trans rfl
                          have hcz14_5 : wr.cell? ⟨gb102, 5, none⟩ = some (.slice A101_8 ((rd_T41 l0 x4_1).f2.f5).length c101_8) := (blk_cell BK102.out 5).trans rfl
                          have hcz14_6 : wr.cell? ⟨gb102, 6, none⟩ = some (.slice A101_9 ((rd_T41 l0 x4_1).f2.f6).length c101_9) := (blk_cell BK102.out 6).trans rfl
                          have hfz14_0 := blk_frozen BK102.out 0
                          have hfz14_1 := blk_frozen BK102.out 1
                          have hfz14_2 := blk_frozen BK102.out 2
                          have hfz14_3 := blk_frozen BK102.out 3
                          have hfz14_4 := blk_frozen BK102.out 4
                          have hfz14_5 := blk_frozen BK102.out 5
                          have hfz14_6 := blk_frozen BK102.out 6
                          go_wp2
                          go_meet
                          case rel => exact ⟨_, (x3_3), (by first | rfl | (simp; done) | (simp [*]; done)), H', ⟨by have := HK1.out; have := HJ1.out; have := HK3.out; first | omega | exact Nat.le_refl _⟩, ⟨by (with_reducible repeat (first | refine blk_drewN ?_ _ | refine blk_drew ?_ | refine blk_alloc ?_ _)); exact BK102.out⟩, ⟨by repeat (first | (with_reducible first | exact HB.out | apply below_alloc | apply pw_below_drewN | apply below_drew1 | refine below_set ?_ GE102.out) | exact HB.out)⟩⟩
                      · rw [if_neg c10] at H
                        have c10b0 : decide (x6_3 < (((rd_T41 l0 x4_1).f2.f1).length : Int)) = false := decide_eq_false c10
                        clear c10
                        (first | rw [c10b0] | (simp only [i64_w, i32_w]; rw [c10b0]) | skip)
                        have H' := Aside0.mk H
                        clear H
                        have hcz15_0 : wr.cell? ⟨gb102, 0, none⟩ = some (.int .i64 ((rd_T41 l0 x4_1).f2.f0)) := (blk_cell BK102.out 0).trans rfl
                        have hcz15_1 : wr.cell? ⟨gb102, 1, none⟩ = some (.slice A101_4 ((rd_T41 l0 x4_1).f2.f1).length c101_4) := (blk_cell BK102.out 1).trans rfl
                        have hcz15_2 : wr.cell? ⟨gb102, 2, none⟩ = some (.int .u32 ((rd_T41 l0 x4_1).f2.f2)) := (blk_cell BK102.out 2).trans rfl
                        have hcz15_3 : wr.cell? ⟨gb102, 3, none⟩ = some (.int .i64 ((rd_T41 l0 x4_1).f2.f3)) := (blk_cell BK102.out 3).trans rfl
                        have hcz15_4 : wr.cell? ⟨gb102, 4, none⟩ = some (.int .i64 ((rd_T41 l0 x4_1).f2.f4)) := (blk_cell BK102.out 4).trans rfl
                        have hcz15_5 : wr.cell? ⟨gb102, 5, none⟩ = some (.slice A101_8 ((rd_T41 l0 x4_1).f2.f5).length c101_8) := (blk_cell BK102.out 5).trans rfl
                        have hcz15_6 : wr.cell? ⟨gb102, 6, none⟩ = some (.slice A101_9 ((rd_T41 l0 x4_1).f2.f6).length c101_9) := (blk_cell BK102.out 6).trans rfl
                        have hfz15_0 := blk_frozen BK102.out 0
                        have hfz15_1 := blk_frozen BK102.out 1
                        have hfz15_2 := blk_frozen BK102.out 2
                        have hfz15_3 := blk_frozen BK102.out 3
                        have hfz15_4 := blk_frozen BK102.out 4
                        have hfz15_5 := blk_frozen BK102.out 5
                        have hfz15_6 := blk_frozen BK102.out 6
                        go_wp2
                        go_meet
                        case rel => exact ⟨_, (x3_3), (by first | rfl | (simp; done) | (simp [*]; done)), H', ⟨by have := HK1.out; have := HJ1.out; have := HK3.out; first | omega | exact Nat.le_refl _⟩, ⟨by (with_reducible repeat (first | refine blk_drewN ?_ _ | refine blk_drew ?_ | refine blk_alloc ?_ _)); exact BK102.out⟩, ⟨by repeat (first | (with_reducible first | exact HB.out | apply below_alloc | apply pw_below_drewN | apply below_drew1 | refine below_set ?_ GE102.out) | exact HB.out)⟩⟩
                case rest =>
                  clear HC7
                  try clear c1
                  try clear p1
                  try clear q1
                  try clear hx1
                  try clear p2
                  try clear c3
                  try clear c3b0
                  try clear c4
                  try clear c5
                  try clear c5b0
                  try clear c6
                  try clear c6b0
                  try clear p6
                  try clear c8
                  try clear c10
                  try clear c10b0
                  try clear p10
                  try clear q10
                  try clear hx10
                  try clear c11
                  try clear c11b0
                  try clear c12
                  try clear c12b0
                  try clear hcz13_0
                  try clear hcz13_1
                  try clear hcz13_2
                  try clear hcz13_3
                  try clear hcz13_4
                  try clear hcz13_5
                  try clear hcz13_6
                  try clear hcz14_0
                  try clear hcz14_1
                  try clear hcz14_2
                  try clear hcz14_3
                  try clear hcz14_4
                  try clear hcz14_5
                  try clear hcz14_6
                  try clear hcz15_0
                  try clear hcz15_1
                  try clear hcz15_2
                  try clear hcz15_3
                  try clear hcz15_4
                  try clear hcz15_5
                  try clear hcz15_6
                  try clear hcz9_0
                  try clear hcz9_1
                  try clear hcz9_2
                  try clear hcz9_3
                  try clear hcz9_4
                  try clear hcz9_5
                  try clear hcz9_6
                  try clear hfz13_0
                  try clear hfz13_1
                  try clear hfz13_2
                  try clear hfz13_3
                  try clear hfz13_4
                  try clear hfz13_5
                  try clear hfz13_6
                  try clear hfz14_0
                  try clear hfz14_1
                  try clear hfz14_2
                  try clear hfz14_3
                  try clear hfz14_4
                  try clear hfz14_5
                  try clear hfz14_6
                  try clear hfz15_0
                  try clear hfz15_1
                  try clear hfz15_2
                  try clear hfz15_3
                  try clear hfz15_4
                  try clear hfz15_5
                  try clear hfz15_6
                  try clear hfz9_0
                  try clear hfz9_1
                  try clear hfz9_2
                  try clear hfz9_3
                  try clear hfz9_4
                  try clear hfz9_5
                  try clear hfz9_6
                  try clear hx101_0
                  try clear hx101_1
                  try clear hx101_10
                  try clear hx101_2
                  try clear hx101_3
                  try clear hx101_4
                  try clear hx101_5
                  try clear hx101_6
                  try clear hx101_7
                  try clear hx101_8
                  try clear hx101_9
                  try clear hx103_0
                  try clear hx103_1
                  try clear p1
                  try clear p101
                  try clear p103
                  try clear p2
                  try clear p6
                  try clear q1
                  try clear q101
                  try clear q103
                  obtain ⟨kq, x3_6, rfl, HA, HJ6, BK102, HB⟩ := hcut
                  cases kq with
                  | zero => exact absurd HA.out (by simp [interregnumlaw15_small.j3])
                  | succ kj6 =>
                    have H := HA.out
                    clear HA
                    simp only [interregnumlaw15_small.j3] at H
                    have HC16 := Aside0.mk H
                    clear H
                    go_upto_region 11 with (fail)
                    go_cut [73] (fun v73 wc => ∃ (kq : Nat) (x73_15 : Bool), v73 = .bool x73_15 ∧ Aside0 (interregnumlaw15_small.j4 kq l0 x3_6 x4_1 x73_15 = some r) ∧ Aside0 (kq ≤ kj6) ∧ Aside0 (wc.heap[gb102]? = some (.cells #[.int .i64 ((rd_T41 l0 x4_1).f2.f0), (.slice A101_4 ((rd_T41 l0 x4_1).f2.f1).length c101_4), .int .u32 ((rd_T41 l0 x4_1).f2.f2), .int .i64 ((rd_T41 l0 x4_1).f2.f3), .int .i64 ((rd_T41 l0 x4_1).f2.f4), (.slice A101_8 ((rd_T41 l0 x4_1).f2.f5).length c101_8), (.slice A101_9 ((rd_T41 l0 x4_1).f2.f6).length c101_9)] 39 (0, 0))) ∧ Aside0 (Below w.heap.size w wc))
                    case first =>
                      have H := HC16.out
                      clear HC16
                      replace H := Option.bind_eq_some_iff.mp H
                      obtain ⟨t104, A170, H⟩ := H
                      replace H : (if t104 = true then (interregnumlaw15_small.j4 kj6 l0 x3_6 x4_1 true) else ((interregnumlaw15_bad.f ((rd_T41 l0 x4_1).f2.f3)).bind fun t105 => (if t105 = true then (interregnumlaw15_small.j4 kj6 l0 x3_6 x4_1 true) else ((interregnumlaw15_bad.f ((rd_T41 l0 x4_1).f2.f0)).bind fun t106 => (if t106 = true then (interregnumlaw15_small.j4 kj6 l0 x3_6 x4_1 true) else (if 0 ≤ x4_1 then (if x4_1 < (l0.length : Int) then ((interregnumlaw15_bad.f ((rd_T41 l0 x4_1).f1)).bind fun t108 => (interregnumlaw15_small.j4 kj6 l0 x3_6 x4_1 t108)) else (none)) else (none))))))) = some r := H
                      have A17 := Aside0.mk A170
                      clear A170
                      by_cases c18 : t104 = true
                      · subst c18
                        have H1 : (interregnumlaw15_small.j4 kj6 l0 x3_6 x4_1 true) = some r := by rw [if_pos rfl] at H; exact H
                        clear H
                        have H := H1
                        clear H1
                        have H' := Aside0.mk H
                        clear H
                        have hcz19_0 : wc.cell? ⟨gb102, 0, none⟩ = some (.int .i64 ((rd_T41 l0 x4_1).f2.f0)) := (blk_cell BK102.out 0).trans rfl
                        have hcz19_1 : wc.cell? ⟨gb102, 1, none⟩ = some (.slice A101_4 ((rd_T41 l0 x4_1).f2.f1).length c101_4) := (blk_cell BK102.out 1).trans rfl
                        have hcz19_2 : wc.cell? ⟨gb102, 2, none⟩ = some (.int .u32 ((rd_T41 l0 x4_1).f2.f2)) := (blk_cell BK102.out 2).trans rfl
                        have hcz19_3 : wc.cell? ⟨gb102, 3, none⟩ = some (.int .i64 ((rd_T41 l0 x4_1).f2.f3)) := (blk_cell BK102.out 3).trans rfl
                        have hcz19_4 : wc.cell? ⟨gb102, 4, none⟩ = some (.int .i64 ((rd_T41 l0 x4_1).f2.f4)) := (blk_cell BK102.out 4).trans rfl
                        have hcz19_5 : wc.cell? ⟨gb102, 5, none⟩ = some (.slice A101_8 ((rd_T41 l0 x4_1).f2.f5).length c101_8) := (blk_cell BK102.out 5).trans rfl
                        have hcz19_6 : wc.cell? ⟨gb102, 6, none⟩ = some (.slice A101_9 ((rd_T41 l0 x4_1).f2.f6).length c101_9) := (blk_cell BK102.out 6).trans rfl
                        have hfz19_0 := blk_frozen BK102.out 0
                        have hfz19_1 := blk_frozen BK102.out 1
                        have hfz19_2 := blk_frozen BK102.out 2
                        have hfz19_3 := blk_frozen BK102.out 3
                        have hfz19_4 := blk_frozen BK102.out 4
                        have hfz19_5 := blk_frozen BK102.out 5
                        have hfz19_6 := blk_frozen BK102.out 6
                        go_wp2_with (first | ((with_reducible refine gate_callee (f := 14) rfl ?_); refine goesL_ (some 55) rfl rfl Try.func14 (by kernel_rfl) rfl #[.int .i64 ((rd_T41 l0 x4_1).f2.f4)] rfl (by (try simp only [List.map_toArray, List.map_cons, List.map_nil]); first | done | rfl | (simp only [List.length_drop, List.length_take]; rfl)) ?_; (with_reducible refine (interregnumlaw15_bad.calls ((rd_T41 l0 x4_1).f2.f4) true _ A17.out).mono ?_); rintro e w' ⟨rfl, ⟨nd, rfl⟩⟩; refine ⟨_, rfl, ?_⟩))
                        go_meet
                        case rel => exact ⟨_, (true), (by first | rfl | (simp; done) | (simp [*]; done)), H', ⟨by have := HK1.out; have := HJ1.out; have := HJ6.out; first | omega | exact Nat.le_refl _⟩, ⟨by (with_reducible repeat (first | refine blk_drewN ?_ _ | refine blk_drew ?_ | refine blk_alloc ?_ _)); exact BK102.out⟩, ⟨by repeat (first | (with_reducible first | exact HB.out | apply below_alloc | apply pw_below_drewN | apply below_drew1 | refine below_set ?_ GE102.out) | exact HB.out)⟩⟩
                      · replace c18 := Bool.eq_false_iff.mpr c18
                        subst c18
                        have H1 : ((interregnumlaw15_bad.f ((rd_T41 l0 x4_1).f2.f3)).bind fun t105 => (if t105 = true then (interregnumlaw15_small.j4 kj6 l0 x3_6 x4_1 true) else ((interregnumlaw15_bad.f ((rd_T41 l0 x4_1).f2.f0)).bind fun t106 => (if t106 = true then (interregnumlaw15_small.j4 kj6 l0 x3_6 x4_1 true) else (if 0 ≤ x4_1 then (if x4_1 < (l0.length : Int) then ((interregnumlaw15_bad.f ((rd_T41 l0 x4_1).f1)).bind fun t108 => (interregnumlaw15_small.j4 kj6 l0 x3_6 x4_1 t108)) else (none)) else (none)))))) = some r := by rw [if_neg (show ¬ (false = true) by decide)] at H; exact H
                        clear H
                        have H := H1
                        clear H1
                        replace H := Option.bind_eq_some_iff.mp H
                        obtain ⟨t105, A200, H⟩ := H
                        replace H : (if t105 = true then (interregnumlaw15_small.j4 kj6 l0 x3_6 x4_1 true) else ((interregnumlaw15_bad.f ((rd_T41 l0 x4_1).f2.f0)).bind fun t106 => (if t106 = true then (interregnumlaw15_small.j4 kj6 l0 x3_6 x4_1 true) else (if 0 ≤ x4_1 then (if x4_1 < (l0.length : Int) then ((interregnumlaw15_bad.f ((rd_T41 l0 x4_1).f1)).bind fun t108 => (interregnumlaw15_small.j4 kj6 l0 x3_6 x4_1 t108)) else (none)) else (none))))) = some r := H
                        have A20 := Aside0.mk A200
                        clear A200
                        by_cases c21 : t105 = true
                        · subst c21
                          have H1 : (interregnumlaw15_small.j4 kj6 l0 x3_6 x4_1 true) = some r := by rw [if_pos rfl] at H; exact H
                          clear H
                          have H := H1
                          clear H1
                          have H' := Aside0.mk H
                          clear H
                          have hcz22_0 : wc.cell? ⟨gb102, 0, none⟩ = some (.int .i64 ((rd_T41 l0 x4_1).f2.f0)) := (blk_cell BK102.out 0).trans rfl
                          have hcz22_1 : wc.cell? ⟨gb102, 1, none⟩ = some (.slice A101_4 ((rd_T41 l0 x4_1).f2.f1).length c101_4) := (blk_cell BK102.out 1).trans rfl
                          have hcz22_2 : wc.cell? ⟨gb102, 2, none⟩ = some (.int .u32 ((rd_T41 l0 x4_1).f2.f2)) := (blk_cell BK102.out 2).trans rfl
                          have hcz22_3 : wc.cell? ⟨gb102, 3, none⟩ = some (.int .i64 ((rd_T41 l0 x4_1).f2.f3)) := (blk_cell BK102.out 3).trans rfl
                          have hcz22_4 : wc.cell? ⟨gb102, 4, none⟩ = some (.int .i64 ((rd_T41 l0 x4_1).f2.f4)) := (blk_cell BK102.out 4).trans rfl
                          have hcz22_5 : wc.cell? ⟨gb102, 5, none⟩ = some (.slice A101_8 ((rd_T41 l0 x4_1).f2.f5).length c101_8) := (blk_cell BK102.out 5).trans rfl
                          have hcz22_6 : wc.cell? ⟨gb102, 6, none⟩ = some (.slice A101_9 ((rd_T41 l0 x4_1).f2.f6).length c101_9) := (blk_cell BK102.out 6).trans rfl
                          have hfz22_0 := blk_frozen BK102.out 0
                          have hfz22_1 := blk_frozen BK102.out 1
                          have hfz22_2 := blk_frozen BK102.out 2
                          have hfz22_3 := blk_frozen BK102.out 3
                          have hfz22_4 := blk_frozen BK102.out 4
                          have hfz22_5 := blk_frozen BK102.out 5
                          have hfz22_6 := blk_frozen BK102.out 6
                          go_wp2_with (first | ((with_reducible refine gate_callee (f := 14) rfl ?_); refine goesL_ (some 55) rfl rfl Try.func14 (by kernel_rfl) rfl #[.int .i64 ((rd_T41 l0 x4_1).f2.f4)] rfl (by (try simp only [List.map_toArray, List.map_cons, List.map_nil]); first | done | rfl | (simp only [List.length_drop, List.length_take]; rfl)) ?_; (with_reducible refine (interregnumlaw15_bad.calls ((rd_T41 l0 x4_1).f2.f4) false _ A17.out).mono ?_); rintro e w' ⟨rfl, ⟨nd, rfl⟩⟩; refine ⟨_, rfl, ?_⟩) | (go_at_call 14; (with_reducible refine (interregnumlaw15_bad.calls ((rd_T41 l0 x4_1).f2.f3) true _ A20.out).mono ?_); rintro e w' ⟨rfl, ⟨nd, rfl⟩⟩))
                          go_meet
                          case rel => exact ⟨_, (true), (by first | rfl | (simp; done) | (simp [*]; done)), H', ⟨by have := HK1.out; have := HJ1.out; have := HJ6.out; first | omega | exact Nat.le_refl _⟩, ⟨by (with_reducible repeat (first | refine blk_drewN ?_ _ | refine blk_drew ?_ | refine blk_alloc ?_ _)); exact BK102.out⟩, ⟨by repeat (first | (with_reducible first | exact HB.out | apply below_alloc | apply pw_below_drewN | apply below_drew1 | refine below_set ?_ GE102.out) | exact HB.out)⟩⟩
                        · replace c21 := Bool.eq_false_iff.mpr c21
                          subst c21
                          have H1 : ((interregnumlaw15_bad.f ((rd_T41 l0 x4_1).f2.f0)).bind fun t106 => (if t106 = true then (interregnumlaw15_small.j4 kj6 l0 x3_6 x4_1 true) else (if 0 ≤ x4_1 then (if x4_1 < (l0.length : Int) then ((interregnumlaw15_bad.f ((rd_T41 l0 x4_1).f1)).bind fun t108 => (interregnumlaw15_small.j4 kj6 l0 x3_6 x4_1 t108)) else (none)) else (none)))) = some r := by rw [if_neg (show ¬ (false = true) by decide)] at H; exact H
                          clear H
                          have H := H1
                          clear H1
                          replace H := Option.bind_eq_some_iff.mp H
                          obtain ⟨t106, A230, H⟩ := H
                          replace H : (if t106 = true then (interregnumlaw15_small.j4 kj6 l0 x3_6 x4_1 true) else (if 0 ≤ x4_1 then (if x4_1 < (l0.length : Int) then ((interregnumlaw15_bad.f ((rd_T41 l0 x4_1).f1)).bind fun t108 => (interregnumlaw15_small.j4 kj6 l0 x3_6 x4_1 t108)) else (none)) else (none))) = some r := H
                          have A23 := Aside0.mk A230
                          clear A230
                          by_cases c24 : t106 = true
                          · subst c24
                            have H1 : (interregnumlaw15_small.j4 kj6 l0 x3_6 x4_1 true) = some r := by rw [if_pos rfl] at H; exact H
                            clear H
                            have H := H1
                            clear H1
                            have H' := Aside0.mk H
                            clear H
                            have hcz25_0 : wc.cell? ⟨gb102, 0, none⟩ = some (.int .i64 ((rd_T41 l0 x4_1).f2.f0)) := (blk_cell BK102.out 0).trans rfl
                            have hcz25_1 : wc.cell? ⟨gb102, 1, none⟩ = some (.slice A101_4 ((rd_T41 l0 x4_1).f2.f1).length c101_4) := (blk_cell BK102.out 1).trans rfl
                            have hcz25_2 : wc.cell? ⟨gb102, 2, none⟩ = some (.int .u32 ((rd_T41 l0 x4_1).f2.f2)) := (blk_cell BK102.out 2).trans rfl
                            have hcz25_3 : wc.cell? ⟨gb102, 3, none⟩ = some (.int .i64 ((rd_T41 l0 x4_1).f2.f3)) := (blk_cell BK102.out 3).trans rfl
                            have hcz25_4 : wc.cell? ⟨gb102, 4, none⟩ = some (.int .i64 ((rd_T41 l0 x4_1).f2.f4)) := (blk_cell BK102.out 4).trans rfl
                            have hcz25_5 : wc.cell? ⟨gb102, 5, none⟩ = some (.slice A101_8 ((rd_T41 l0 x4_1).f2.f5).length c101_8) := (blk_cell BK102.out 5).trans rfl
                            have hcz25_6 : wc.cell? ⟨gb102, 6, none⟩ = some (.slice A101_9 ((rd_T41 l0 x4_1).f2.f6).length c101_9) := (blk_cell BK102.out 6).trans rfl
                            have hfz25_0 := blk_frozen BK102.out 0
                            have hfz25_1 := blk_frozen BK102.out 1
                            have hfz25_2 := blk_frozen BK102.out 2
                            have hfz25_3 := blk_frozen BK102.out 3
                            have hfz25_4 := blk_frozen BK102.out 4
                            have hfz25_5 := blk_frozen BK102.out 5
                            have hfz25_6 := blk_frozen BK102.out 6
                            go_wp2_with (first | ((with_reducible refine gate_callee (f := 14) rfl ?_); refine goesL_ (some 55) rfl rfl Try.func14 (by kernel_rfl) rfl #[.int .i64 ((rd_T41 l0 x4_1).f2.f4)] rfl (by (try simp only [List.map_toArray, List.map_cons, List.map_nil]); first | done | rfl | (simp only [List.length_drop, List.length_take]; rfl)) ?_; (with_reducible refine (interregnumlaw15_bad.calls ((rd_T41 l0 x4_1).f2.f4) false _ A17.out).mono ?_); rintro e w' ⟨rfl, ⟨nd, rfl⟩⟩; refine ⟨_, rfl, ?_⟩) | (go_at_call 14; (with_reducible refine (interregnumlaw15_bad.calls ((rd_T41 l0 x4_1).f2.f3) false _ A20.out).mono ?_); rintro e w' ⟨rfl, ⟨nd, rfl⟩⟩) | (go_at_call 14; (with_reducible refine (interregnumlaw15_bad.calls ((rd_T41 l0 x4_1).f2.f0) true _ A23.out).mono ?_); rintro e w' ⟨rfl, ⟨nd, rfl⟩⟩))
                            go_meet
                            case rel => exact ⟨_, (true), (by first | rfl | (simp; done) | (simp [*]; done)), H', ⟨by have := HK1.out; have := HJ1.out; have := HJ6.out; first | omega | exact Nat.le_refl _⟩, ⟨by (with_reducible repeat (first | refine blk_drewN ?_ _ | refine blk_drew ?_ | refine blk_alloc ?_ _)); exact BK102.out⟩, ⟨by repeat (first | (with_reducible first | exact HB.out | apply below_alloc | apply pw_below_drewN | apply below_drew1 | refine below_set ?_ GE102.out) | exact HB.out)⟩⟩
                          · replace c24 := Bool.eq_false_iff.mpr c24
                            subst c24
                            have H1 : (if 0 ≤ x4_1 then (if x4_1 < (l0.length : Int) then ((interregnumlaw15_bad.f ((rd_T41 l0 x4_1).f1)).bind fun t108 => (interregnumlaw15_small.j4 kj6 l0 x3_6 x4_1 t108)) else (none)) else (none)) = some r := by rw [if_neg (show ¬ (false = true) by decide)] at H; exact H
                            clear H
                            have H := H1
                            clear H1
                            by_cases c26 : 0 ≤ x4_1
                            · rw [if_pos c26] at H
                              have c26b0 : decide (0 ≤ x4_1) = true := decide_eq_true c26
                              clear c26
                              (first | rw [c26b0] | (simp only [i64_w, i32_w]; rw [c26b0]) | skip)
                              by_cases c27 : x4_1 < (l0.length : Int)
                              · rw [if_pos c27] at H
                                have c27b0 : decide (x4_1 < (l0.length : Int)) = true := decide_eq_true c27
                                clear c27
                                replace H := Option.bind_eq_some_iff.mp H
                                obtain ⟨t108, A280, H⟩ := H
                                replace H : (interregnumlaw15_small.j4 kj6 l0 x3_6 x4_1 t108) = some r := H
                                have A28 := Aside0.mk A280
                                clear A280
                                have H' := Aside0.mk H
                                clear H
                                have hcz29_0 : wc.cell? ⟨gb102, 0, none⟩ = some (.int .i64 ((rd_T41 l0 x4_1).f2.f0)) := (blk_cell BK102.out 0).trans rfl
                                have hcz29_1 : wc.cell? ⟨gb102, 1, none⟩ = some (.slice A101_4 ((rd_T41 l0 x4_1).f2.f1).length c101_4) := (blk_cell BK102.out 1).trans rfl
                                have hcz29_2 : wc.cell? ⟨gb102, 2, none⟩ = some (.int .u32 ((rd_T41 l0 x4_1).f2.f2)) := (blk_cell BK102.out 2).trans rfl
                                have hcz29_3 : wc.cell? ⟨gb102, 3, none⟩ = some (.int .i64 ((rd_T41 l0 x4_1).f2.f3)) := (blk_cell BK102.out 3).trans rfl
                                have hcz29_4 : wc.cell? ⟨gb102, 4, none⟩ = some (.int .i64 ((rd_T41 l0 x4_1).f2.f4)) := (blk_cell BK102.out 4).trans rfl
                                have hcz29_5 : wc.cell? ⟨gb102, 5, none⟩ = some (.slice A101_8 ((rd_T41 l0 x4_1).f2.f5).length c101_8) := (blk_cell BK102.out 5).trans rfl
                                have hcz29_6 : wc.cell? ⟨gb102, 6, none⟩ = some (.slice A101_9 ((rd_T41 l0 x4_1).f2.f6).length c101_9) := (blk_cell BK102.out 6).trans rfl
                                have hfz29_0 := blk_frozen BK102.out 0
                                have hfz29_1 := blk_frozen BK102.out 1
                                have hfz29_2 := blk_frozen BK102.out 2
                                have hfz29_3 := blk_frozen BK102.out 3
                                have hfz29_4 := blk_frozen BK102.out 4
                                have hfz29_5 := blk_frozen BK102.out 5
                                have hfz29_6 := blk_frozen BK102.out 6
                                go_wp2_with (first | ((with_reducible refine gate_callee (f := 14) rfl ?_); refine goesL_ (some 55) rfl rfl Try.func14 (by kernel_rfl) rfl #[.int .i64 ((rd_T41 l0 x4_1).f2.f4)] rfl (by (try simp only [List.map_toArray, List.map_cons, List.map_nil]); first | done | rfl | (simp only [List.length_drop, List.length_take]; rfl)) ?_; (with_reducible refine (interregnumlaw15_bad.calls ((rd_T41 l0 x4_1).f2.f4) false _ A17.out).mono ?_); rintro e w' ⟨rfl, ⟨nd, rfl⟩⟩; refine ⟨_, rfl, ?_⟩) | (go_at_call 14; (with_reducible refine (interregnumlaw15_bad.calls ((rd_T41 l0 x4_1).f2.f3) false _ A20.out).mono ?_); rintro e w' ⟨rfl, ⟨nd, rfl⟩⟩) | (go_at_call 14; (with_reducible refine (interregnumlaw15_bad.calls ((rd_T41 l0 x4_1).f2.f0) false _ A23.out).mono ?_); rintro e w' ⟨rfl, ⟨nd, rfl⟩⟩; have p107 : 0 ≤ (x4_1 : Int) := of_decide_eq_true (by first | (with_reducible assumption) | assumption); have q107 : x4_1 < (l0.length : Int) := of_decide_eq_true (by first | (with_reducible assumption) | assumption); obtain ⟨ad107, A107_4, c107_4, A107_8, c107_8, A107_9, c107_9, e107, hx107_0, hx107_1, hx107_2, hx107_3, hx107_4, hx107_5, hx107_6, hx107_7, hx107_8, hx107_9, hx107_10, hl107_4, hi107_4, hl107_8, hi107_8, hl107_9, hi107_9⟩ := at_T41 HR0.out x4_1 p107 q107; obtain rfl : ad101 = ad107 := (by injection e107); replace hx107_0 := (HB.out.cell (World.block_lt_of_cell? w _ hx107_0)).trans hx107_0; replace hx107_1 := (HB.out.cell (World.block_lt_of_cell? w _ hx107_1)).trans hx107_1; replace hx107_2 := (HB.out.cell (World.block_lt_of_cell? w _ hx107_2)).trans hx107_2; replace hx107_3 := (HB.out.cell (World.block_lt_of_cell? w _ hx107_3)).trans hx107_3; replace hx107_4 := (HB.out.cell (World.block_lt_of_cell? w _ hx107_4)).trans hx107_4; replace hx107_5 := (HB.out.cell (World.block_lt_of_cell? w _ hx107_5)).trans hx107_5; replace hx107_6 := (HB.out.cell (World.block_lt_of_cell? w _ hx107_6)).trans hx107_6; replace hx107_7 := (HB.out.cell (World.block_lt_of_cell? w _ hx107_7)).trans hx107_7; replace hx107_8 := (HB.out.cell (World.block_lt_of_cell? w _ hx107_8)).trans hx107_8; replace hx107_9 := (HB.out.cell (World.block_lt_of_cell? w _ hx107_9)).trans hx107_9; replace hx107_10 := (HB.out.cell (World.block_lt_of_cell? w _ hx107_10)).trans hx107_10; have HR107_4 := Aside0.mk hi107_4; have HC107_4 := Aside0.mk hl107_4; clear hi107_4 hl107_4; have HR107_8 := Aside0.mk hi107_8; have HC107_8 := Aside0.mk hl107_8; clear hi107_8 hl107_8; have HR107_9 := Aside0.mk hi107_9; have HC107_9 := Aside0.mk hl107_9; clear hi107_9 hl107_9; replace p107 := eq_true p107; replace q107 := eq_true q107) | (go_at_call 14; (with_reducible refine (interregnumlaw15_bad.calls ((rd_T41 l0 x4_1).f1) t108 _ A28.out).mono ?_); rintro e w' ⟨rfl, ⟨nd, rfl⟩⟩))
                                go_meet
                                case rel => exact ⟨_, (t108), (by first | rfl | (simp; done) | (simp [*]; done)), H', ⟨by have := HK1.out; have := HJ1.out; have := HJ6.out; first | omega | exact Nat.le_refl _⟩, ⟨by (with_reducible repeat (first | refine blk_drewN ?_ _ | refine blk_drew ?_ | refine blk_alloc ?_ _)); exact BK102.out⟩, ⟨by repeat (first | (with_reducible first | exact HB.out | apply below_alloc | apply pw_below_drewN | apply below_drew1 | refine below_set ?_ GE102.out) | exact HB.out)⟩⟩
                              · rw [if_neg c27] at H
                                exact absurd H (by simp)
                            · rw [if_neg c26] at H
                              exact absurd H (by simp)
                    case rest =>
                      clear HC16
                      try clear c1
                      try clear p1
                      try clear q1
                      try clear hx1
                      try clear c2
                      try clear p2
                      try clear c3
                      try clear c3b0
                      try clear c4
                      try clear c5
                      try clear c5b0
                      try clear c6
                      try clear c6b0
                      try clear p6
                      try clear c8
                      try clear c10
                      try clear c10b0
                      try clear p10
                      try clear q10
                      try clear hx10
                      try clear c11
                      try clear c11b0
                      try clear c12
                      try clear c12b0
                      try clear c14
                      try clear c18
                      try clear c21
                      try clear c24
                      try clear c26
                      try clear c26b0
                      try clear c27
                      try clear c27b0
                      try clear hcz13_0
                      try clear hcz13_1
                      try clear hcz13_2
                      try clear hcz13_3
                      try clear hcz13_4
                      try clear hcz13_5
                      try clear hcz13_6
                      try clear hcz14_0
                      try clear hcz14_1
                      try clear hcz14_2
                      try clear hcz14_3
                      try clear hcz14_4
                      try clear hcz14_5
                      try clear hcz14_6
                      try clear hcz15_0
                      try clear hcz15_1
                      try clear hcz15_2
                      try clear hcz15_3
                      try clear hcz15_4
                      try clear hcz15_5
                      try clear hcz15_6
                      try clear hcz19_0
                      try clear hcz19_1
                      try clear hcz19_2
                      try clear hcz19_3
                      try clear hcz19_4
                      try clear hcz19_5
                      try clear hcz19_6
                      try clear hcz22_0
                      try clear hcz22_1
                      try clear hcz22_2
                      try clear hcz22_3
                      try clear hcz22_4
                      try clear hcz22_5
                      try clear hcz22_6
                      try clear hcz25_0
                      try clear hcz25_1
                      try clear hcz25_2
                      try clear hcz25_3
                      try clear hcz25_4
                      try clear hcz25_5
                      try clear hcz25_6
                      try clear hcz29_0
                      try clear hcz29_1
                      try clear hcz29_2
                      try clear hcz29_3
                      try clear hcz29_4
                      try clear hcz29_5
                      try clear hcz29_6
                      try clear hcz9_0
                      try clear hcz9_1
                      try clear hcz9_2
                      try clear hcz9_3
                      try clear hcz9_4
                      try clear hcz9_5
                      try clear hcz9_6
                      try clear hfz13_0
                      try clear hfz13_1
                      try clear hfz13_2
                      try clear hfz13_3
                      try clear hfz13_4
                      try clear hfz13_5
                      try clear hfz13_6
                      try clear hfz14_0
                      try clear hfz14_1
                      try clear hfz14_2
                      try clear hfz14_3
                      try clear hfz14_4
                      try clear hfz14_5
                      try clear hfz14_6
                      try clear hfz15_0
                      try clear hfz15_1
                      try clear hfz15_2
                      try clear hfz15_3
                      try clear hfz15_4
                      try clear hfz15_5
                      try clear hfz15_6
                      try clear hfz19_0
                      try clear hfz19_1
                      try clear hfz19_2
                      try clear hfz19_3
                      try clear hfz19_4
                      try clear hfz19_5
                      try clear hfz19_6
                      try clear hfz22_0
                      try clear hfz22_1
                      try clear hfz22_2
                      try clear hfz22_3
                      try clear hfz22_4
                      try clear hfz22_5
                      try clear hfz22_6
                      try clear hfz25_0
                      try clear hfz25_1
                      try clear hfz25_2
                      try clear hfz25_3
                      try clear hfz25_4
                      try clear hfz25_5
                      try clear hfz25_6
                      try clear hfz29_0
                      try clear hfz29_1
                      try clear hfz29_2
                      try clear hfz29_3
                      try clear hfz29_4
                      try clear hfz29_5
                      try clear hfz29_6
                      try clear hfz9_0
                      try clear hfz9_1
                      try clear hfz9_2
                      try clear hfz9_3
                      try clear hfz9_4
                      try clear hfz9_5
                      try clear hfz9_6
                      try clear hx101_0
                      try clear hx101_1
                      try clear hx101_10
                      try clear hx101_2
                      try clear hx101_3
                      try clear hx101_4
                      try clear hx101_5
                      try clear hx101_6
                      try clear hx101_7
                      try clear hx101_8
                      try clear hx101_9
                      try clear hx103_0
                      try clear hx103_1
                      try clear hx107_0
                      try clear hx107_1
                      try clear hx107_10
                      try clear hx107_2
                      try clear hx107_3
                      try clear hx107_4
                      try clear hx107_5
                      try clear hx107_6
                      try clear hx107_7
                      try clear hx107_8
                      try clear hx107_9
                      try clear p1
                      try clear p10
                      try clear p101
                      try clear p103
                      try clear p107
                      try clear p2
                      try clear p6
                      try clear q1
                      try clear q10
                      try clear q101
                      try clear q103
                      try clear q107
                      obtain ⟨kq, x73_15, rfl, HA, HJ15, BK102, HB⟩ := hcut
                      cases kq with
                      | zero => exact absurd HA.out (by simp [interregnumlaw15_small.j4])
                      | succ kj15 =>
                        have H := HA.out
                        clear HA
                        simp only [interregnumlaw15_small.j4] at H
                        by_cases c30 : x73_15 = true
                        · subst c30
                          have H1 : (some false) = some r := by rw [if_pos rfl] at H; exact H
                          clear H
                          have H := H1
                          clear H1
                          obtain rfl := Option.some.inj H
                          go_wp2
                          go_ret
                          exact ⟨by first | rfl | (simp [errW_none, errW_some] <;> rfl) | (simp [*, errW_none, errW_some] <;> rfl), by repeat (first | (with_reducible first | exact HB.out | apply below_alloc | apply pw_below_drewN | apply below_drew1 | refine below_set ?_ GE102.out) | exact HB.out)⟩
                        · replace c30 := Bool.eq_false_iff.mpr c30
                          subst c30
                          have H1 : (interregnumlaw15_small.l0 kj15 l0 x3_6 (wrap64 (x4_1 + 1))) = some r := by rw [if_neg (show ¬ (false = true) by decide)] at H; exact H
                          clear H
                          have H := H1
                          clear H1
                          have H' := Aside0.mk H
                          clear H
                          go_wp2
                          go_roundg kj15
                          case measure => have := HK1.out; have := HJ1.out; have := HJ6.out; have := HJ15.out; omega
                          case rel => exact ⟨(x3_6), (wrap64 (x4_1 + 1)), (by first | rfl | (simp; done) | (simp [*]; done)), (by first | rfl | (simp; done) | (simp [*]; done)), H', ⟨by have := HK1.out; have := HJ1.out; have := HJ6.out; have := HJ15.out; omega⟩, ⟨by repeat (first | (with_reducible first | exact HB.out | apply below_alloc | apply pw_below_drewN | apply below_drew1 | refine below_set ?_ GE102.out) | exact HB.out)⟩⟩
              · rw [if_neg c6] at H
                exact absurd H (by simp)
            · rw [if_neg c5] at H
              exact absurd H (by simp)
          · replace c4 := Bool.eq_false_iff.mpr c4
            subst c4
            have H1 : (some (decide (x3_1 < 3000))) = some r := by rw [if_neg (show ¬ (false = true) by decide)] at H; exact H
            clear H
            have H := H1
            clear H1
            obtain rfl := Option.some.inj H
            go_wp2
            go_ret
            exact ⟨by first | rfl | (simp [errW_none, errW_some] <;> rfl) | (simp [*, errW_none, errW_some] <;> rfl), by repeat (first | (with_reducible first | exact HB.out | apply below_alloc | apply pw_below_drewN | apply below_drew1) | exact HB.out)⟩

-- NOT PRINTED: function 53 (slices_IndexFunc_api_Segment_api_Segment)

-- NOT PRINTED: function 46 (slices_ContainsFunc_api_Segment_api_Segment)

end Go.Proofs.Ytediicgkcgfghaa.PDecideLess
