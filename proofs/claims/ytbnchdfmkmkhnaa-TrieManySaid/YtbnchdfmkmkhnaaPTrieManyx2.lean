-- Lean text by a program of this repo (wip/tools/printx.py), out of Lean's own print of the translation
import Derived.Test.YtbnchdfmkmkhnaaMid
import Derived.Test.YtbnchdfmkmkhnaaPTrieManyx0
import Derived.Test.YtbnchdfmkmkhnaaPTrieManyx1
namespace Go.Proofs.Ytbnchdfmkmkhnaa.PTrieMany
open Go.RowKit Go.Proofs.YtbnchdfmkmkhnaaW.PrintWords Go.Proofs.YtbnchdfmkmkhnaaW.PrintLast Go.Proofs.YtbnchdfmkmkhnaaW.PrintMore
attribute [local go_sem] max2_int min2_int max_two min_two max_three min_three max_four min_four   -- for this text's walks alone
set_option linter.unusedVariables false
set_option linter.unusedSimpArgs false

/-! ### interregnumref05_Make: function 28 -/
mutual
def interregnumref05_Make.j0 : Nat → Int → Int → Bool → Option (Int × Int × Bool)
  | 0, _, _, _ => none
  | k + 1, x0, x1, x13 => if x13 = true then (some (0, 0, false)) else (interregnumref05_Make.l0 k x0 x1 0 0 x1)
def interregnumref05_Make.l0 : Nat → Int → Int → Int → Int → Int → Option (Int × Int × Bool)
  | 0, _, _, _, _, _ => none
  | k + 1, x0, x1, x7, x107000, x107001 => if x7 < x1 then ((interregnumref05_Bit.f x0 x7).bind fun t107 => (if 0 ≤ (IntKind.u64.wrap (wrap64 (31 - x7))) then (interregnumref05_Make.l0 k x0 x1 (wrap64 (x7 + 1)) ((x107000 + (shl .u32 t107 (IntKind.u64.wrap (wrap64 (31 - x7))))) % 4294967296) x107001) else (none))) else (some (x107000, x107001, true))
end
def interregnumref05_Make.f (k : Nat) (a0 : Int) (a1 : Int) : Option (Int × Int × Bool) := if a1 < 0 then (interregnumref05_Make.j0 k a0 a1 true) else (interregnumref05_Make.j0 k a0 a1 (decide (a1 > 32)))
theorem interregnumref05_Make.mono_l : ∀ k, (∀ y0 y1 y2, LeO (interregnumref05_Make.j0 k y0 y1 y2) (interregnumref05_Make.j0 (k + 1) y0 y1 y2)) ∧ (∀ y0 y1 y2 y3 y4, LeO (interregnumref05_Make.l0 k y0 y1 y2 y3 y4) (interregnumref05_Make.l0 (k + 1) y0 y1 y2 y3 y4))
  | 0 => ⟨fun _ _ _ r h => by simp [interregnumref05_Make.j0] at h, fun _ _ _ _ _ r h => by simp [interregnumref05_Make.l0] at h⟩
  | k + 1 => by
    obtain ⟨ih0, ih1⟩ := interregnumref05_Make.mono_l k
    refine ⟨?_, ?_⟩
    · intro y0 y1 y2
      unfold interregnumref05_Make.j0
      repeat' first
      | (with_reducible exact ih0 _ _ _)
      | (with_reducible exact ih1 _ _ _ _ _)
      | (with_reducible exact LeO.refl _)
      | (with_reducible exact LeO.none _)
      | (with_reducible refine LeO.ite ?_ ?_)
      | (with_reducible refine LeO.bind ?_ (fun _ => ?_))
      | exact ih0 _ _ _
      | exact ih1 _ _ _ _ _
      | exact LeO.none _
      | refine LeO.ite ?_ ?_
      | refine LeO.bind ?_ (fun _ => ?_)
    · intro y0 y1 y2 y3 y4
      unfold interregnumref05_Make.l0
      repeat' first
      | (with_reducible exact ih0 _ _ _)
      | (with_reducible exact ih1 _ _ _ _ _)
      | (with_reducible exact LeO.refl _)
      | (with_reducible exact LeO.none _)
      | (with_reducible refine LeO.ite ?_ ?_)
      | (with_reducible refine LeO.bind ?_ (fun _ => ?_))
      | exact ih0 _ _ _
      | exact ih1 _ _ _ _ _
      | exact LeO.none _
      | refine LeO.ite ?_ ?_
      | refine LeO.bind ?_ (fun _ => ?_)
theorem interregnumref05_Make.mono : ∀ a0 a1 k, LeO (interregnumref05_Make.f k a0 a1) (interregnumref05_Make.f (k + 1) a0 a1) := by
  intro a0 a1 k
  obtain ⟨ih0, ih1⟩ := interregnumref05_Make.mono_l k
  unfold interregnumref05_Make.f
  repeat' first
      | (with_reducible exact ih0 _ _ _)
      | (with_reducible exact ih1 _ _ _ _ _)
      | (with_reducible exact LeO.refl _)
      | (with_reducible exact LeO.none _)
      | (with_reducible refine LeO.ite ?_ ?_)
      | (with_reducible refine LeO.bind ?_ (fun _ => ?_))
      | exact ih0 _ _ _
      | exact ih1 _ _ _ _ _
      | exact LeO.none _
      | refine LeO.ite ?_ ?_
      | refine LeO.bind ?_ (fun _ => ?_)
def interregnumref05_Make.T7 : Bool × List (List Nat × List Nat) := (true, [([], []), ([0], [0]), ([], []), ([], []), ([2, 3], [2, 3]), ([], []), ([5], [5]), ([6], [6]), ([4, 7], [4, 7]), ([1, 8], [1, 8]), ([0, 1, 2, 3, 4, 5, 6, 7, 8, 9], []), ([10, 9, 4, 0, 1, 2, 3, 4, 5, 6, 7, 8, 9], [9, 10])])
def interregnumref05_Make.B7 : List Nat := [0, 1, 0, 0, 12, 0, 32, 96, 252, 511, 1023, 2047]
theorem interregnumref05_Make.tab7 : rtab .any (opsOf Try.f28 7) = interregnumref05_Make.T7 := by kernel_rfl
theorem interregnumref05_Make.bits7 : waitsOk interregnumref05_Make.T7.2 interregnumref05_Make.B7 = true := by kernel_rfl
set_option maxHeartbeats 8000000 in
set_option maxRecDepth 100000 in
theorem interregnumref05_Make.calls (k : Nat) (a0 : Int) (a1 : Int) (r1 : Int) (r2 : Int) (r3 : Bool) (w : World) (h : interregnumref05_Make.f k a0 a1 = some (r1, r2, r3)) :
    Calls Try.prog 28 #[.int .u32 a0, .int .i64 a1] w fun e w' => e = .returned (.tuple #[.agg #[.int .u32 r1, .int .i64 r2], .bool r3]) ∧ Below w.heap.size w w' := by
  have hu45 := Try.underlying45
  have HB := Aside0.mk (Below.refl w.heap.size w)
  have H : (if a1 < 0 then (interregnumref05_Make.j0 k a0 a1 true) else (interregnumref05_Make.j0 k a0 a1 (decide (a1 > 32)))) = some (r1, r2, r3) := h
  clear h
  have HC3 := Aside0.mk H
  clear H
  go_enter Try.func28, Try.ntmps28
  go_upto_region 1 with (first | ((with_reducible refine gate_dst (N := 4) rfl ?_); refine box_event ?hg (N := 4) ?hd (cs := #[.int .u32 0, .int .i64 0]) (t := 45) ?hr ?_; (case hd => rfl); (case hg => rfl); (case hr => first | (go_simp; done) | (go_simp; rfl) | (go_simp; simp [IntKind.wrap_u8, IntKind.wrap_u32]; done)); intro gb105 hg w4 hbox hb; have n0_ := Aside0.mk (below_step (by repeat (first | (with_reducible first | exact HB.out | apply below_alloc | apply pw_below_drewN | apply below_drew1) | exact HB.out)) hb); have n1_ := Aside0.mk (hbox); have n2_ := Aside0.mk ((by rw [hg]; exact (below_size (by repeat (first | (with_reducible first | exact HB.out | apply below_alloc | apply pw_below_drewN | apply below_drew1) | exact HB.out))) : w.heap.size ≤ gb105)); have n3_ := Aside0.mk ((by rw [hg]; exact (below_size (by repeat (first | (with_reducible first | exact HB.out | apply below_alloc | apply pw_below_drewN | apply below_drew1) | exact HB.out))) : w.heap.size ≤ gb105)); clear HB; have HB := n0_; have BK105 := n1_; have GW105 := n2_; have GE105 := n3_; clear n0_ n1_ n2_ n3_; clear hb hbox hg))
  (try simp only [Act.put, List.setIfInBounds_toArray, List.set_cons_zero, List.set_cons_succ])
  go_cut [13] (fun v13 wc => ∃ (kq : Nat) (x13_2 : Bool), v13 = .bool x13_2 ∧ Aside0 (interregnumref05_Make.j0 kq a0 a1 x13_2 = some (r1, r2, r3)) ∧ Aside0 (kq ≤ k) ∧ Aside0 (wc.heap[gb105]? = some (.cells #[.int .u32 0, .int .i64 0] 45 (0, 0))) ∧ Aside0 (Below w.heap.size w wc))
  case first =>
    have H := HC3.out
    clear HC3
    by_cases c5 : a1 < 0
    · rw [if_pos c5] at H
      have c5b0 : decide (a1 < 0) = true := decide_eq_true c5
      clear c5
      (first | rw [c5b0] | (simp only [i64_w, i32_w]; rw [c5b0]) | skip)
      have H' := Aside0.mk H
      clear H
      go_wp2
      go_meet
      case rel => exact ⟨_, (true), (by first | rfl | (simp; done) | (simp [*]; done)), H', ⟨by first | omega | exact Nat.le_refl _⟩, ⟨by (with_reducible repeat (first | refine blk_drewN ?_ _ | refine blk_drew ?_ | refine blk_alloc ?_ _)); exact BK105.out⟩, ⟨by repeat (first | (with_reducible first | exact HB.out | apply below_alloc | apply pw_below_drewN | apply below_drew1 | refine below_set ?_ GE105.out) | exact HB.out)⟩⟩
    · rw [if_neg c5] at H
      have c5b0 : decide (a1 < 0) = false := decide_eq_false c5
      clear c5
      (first | rw [c5b0] | (simp only [i64_w, i32_w]; rw [c5b0]) | skip)
      have H' := Aside0.mk H
      clear H
      go_wp2
      go_meet
      case rel => exact ⟨_, (decide (a1 > 32)), (by first | rfl | (simp; done) | (simp [*]; done)), H', ⟨by first | omega | exact Nat.le_refl _⟩, ⟨by (with_reducible repeat (first | refine blk_drewN ?_ _ | refine blk_drew ?_ | refine blk_alloc ?_ _)); exact BK105.out⟩, ⟨by repeat (first | (with_reducible first | exact HB.out | apply below_alloc | apply pw_below_drewN | apply below_drew1 | refine below_set ?_ GE105.out) | exact HB.out)⟩⟩
  case rest =>
    clear HC3
    try clear c2
    try clear p2
    try clear c5
    try clear c5b0
    obtain ⟨kq, x13_2, rfl, HA, HJ2, BK105, HB⟩ := hcut
    cases kq with
    | zero => exact absurd HA.out (by simp [interregnumref05_Make.j0])
    | succ kj2 =>
      have H := HA.out
      clear HA
      simp only [interregnumref05_Make.j0] at H
      by_cases c6 : x13_2 = true
      · subst c6
        have H1 : (some (0, 0, false)) = some (r1, r2, r3) := by rw [if_pos rfl] at H; exact H
        clear H
        have H := H1
        clear H1
        simp only [Option.some.injEq, Prod.mk.injEq] at H
        obtain ⟨rfl, rfl, rfl⟩ := H
        have hcz7_0 : wc.cell? ⟨gb105, 0, none⟩ = some (.int .u32 0) := (blk_cell BK105.out 0).trans rfl
        have hcz7_1 : wc.cell? ⟨gb105, 1, none⟩ = some (.int .i64 0) := (blk_cell BK105.out 1).trans rfl
        have hfz7_0 := blk_frozen BK105.out 0
        have hfz7_1 := blk_frozen BK105.out 1
        go_wp2
        refine bodyPost_ret (results_ct rfl _ _ gb105 45 #[.int .u32 0, .int .i64 0] (0, 0) _ rfl (by (with_reducible repeat (first | refine blk_drewN ?_ _ | refine blk_drew ?_ | refine blk_alloc ?_ _)); refine blk_put (cs := #[.int .u32 0, .int .i64 0]) ?_ 1 _ rfl; (with_reducible repeat (first | refine blk_drewN ?_ _ | refine blk_drew ?_ | refine blk_alloc ?_ _)); refine blk_put (cs := #[.int .u32 0, .int .i64 0]) ?_ 0 _ rfl; (with_reducible repeat (first | refine blk_drewN ?_ _ | refine blk_drew ?_ | refine blk_alloc ?_ _)); exact BK105.out) Try.underlying45 rfl (by kernel_rfl)) rfl ?_
        exact ⟨by first | rfl | (simp [errW_none, errW_some] <;> rfl) | (simp [*, errW_none, errW_some] <;> rfl), by repeat (first | (with_reducible first | exact HB.out | apply below_alloc | apply pw_below_drewN | apply below_drew1 | refine below_set ?_ GE105.out) | exact HB.out)⟩
      · replace c6 := Bool.eq_false_iff.mpr c6
        subst c6
        have H1 : (interregnumref05_Make.l0 kj2 a0 a1 0 0 a1) = some (r1, r2, r3) := by rw [if_neg (show ¬ (false = true) by decide)] at H; exact H
        clear H
        have H := H1
        clear H1
        have H' := Aside0.mk H
        clear H
        go_wp2_with (first | ((with_reducible refine gate_dst (N := 6) rfl ?_); refine box_event ?hg (N := 6) ?hd (cs := #[.int .u32 0, .int .i64 0]) (t := 45) ?hr ?_; (case hd => rfl); (case hg => rfl); (case hr => first | (go_simp; done) | (go_simp; rfl) | (go_simp; simp [IntKind.wrap_u8, IntKind.wrap_u32]; done)); intro gb106 hg w8 hbox hb; have n0_ := Aside0.mk (blk_below (g := gb105) (o := .cells #[.int .u32 0, .int .i64 0] 45 (0, 0)) (by (with_reducible repeat (first | refine blk_drewN ?_ _ | refine blk_drew ?_ | refine blk_alloc ?_ _)); exact BK105.out) hb); have n1_ := Aside0.mk (below_step (by repeat (first | (with_reducible first | exact HB.out | apply below_alloc | apply pw_below_drewN | apply below_drew1 | refine below_set ?_ GE105.out) | exact HB.out)) hb); have n2_ := Aside0.mk (hbox); have n3_ := Aside0.mk ((by rw [hg]; exact (below_size (by repeat (first | (with_reducible first | exact HB.out | apply below_alloc | apply pw_below_drewN | apply below_drew1 | refine below_set ?_ GE105.out) | exact HB.out))) : w.heap.size ≤ gb106)); have n4_ := Aside0.mk ((by rw [hg]; exact (below_size (by repeat (first | (with_reducible first | exact HB.out | apply below_alloc | apply pw_below_drewN | apply below_drew1 | refine below_set ?_ GE105.out) | exact HB.out))) : w.heap.size ≤ gb106)); have n5_ := Aside0.mk ((by rw [hg]; exact Nat.ne_of_lt (blk_lt (g := gb105) (o := .cells #[.int .u32 0, .int .i64 0] 45 (0, 0)) (by (with_reducible repeat (first | refine blk_drewN ?_ _ | refine blk_drew ?_ | refine blk_alloc ?_ _)); exact BK105.out)) : gb105 ≠ gb106)); have n6_ := Aside0.mk ((by rw [hg]; exact Nat.ne_of_gt (blk_lt (g := gb105) (o := .cells #[.int .u32 0, .int .i64 0] 45 (0, 0)) (by (with_reducible repeat (first | refine blk_drewN ?_ _ | refine blk_drew ?_ | refine blk_alloc ?_ _)); exact BK105.out)) : gb106 ≠ gb105)); clear BK105; clear HB; have BK105 := n0_; have HB := n1_; have BK106 := n2_; have GW106 := n3_; have GE106 := n4_; have NB105_106 := n5_; have NB106_105 := n6_; clear n0_ n1_ n2_ n3_ n4_ n5_ n6_; clear hb hbox hg; have hnb9 := NB106_105.out; have hnc9 := NB105_106.out; have hcz10_0 : w8.cell? ⟨gb106, 0, none⟩ = some (.int .u32 0) := (blk_cell BK106.out 0).trans rfl; have hcz10_1 : w8.cell? ⟨gb106, 1, none⟩ = some (.int .i64 0) := (blk_cell BK106.out 1).trans rfl; have hfz10_0 := blk_frozen BK106.out 0; have hfz10_1 := blk_frozen BK106.out 1))
        go_loopg [7] kj2 (fun kq v7 w' => ∃ (x7_2 : Int) (x107000_2 : Int), v7 = .int .i64 x7_2 ∧ Aside0 (interregnumref05_Make.l0 kq a0 a1 x7_2 x107000_2 a1 = some (r1, r2, r3)) ∧ Aside0 (kq ≤ kj2) ∧ Aside0 (w'.heap[gb105]? = some (.cells #[.int .u32 0, .int .i64 0] 45 (0, 0))) ∧ Aside0 (w'.heap[gb106]? = some (.cells #[.int .u32 x107000_2, .int .i64 a1] 45 (0, 0))) ∧ Aside0 (Below w.heap.size w w'))
        case atStart => exact ⟨(0), (0), (by first | rfl | (simp; done) | (simp [*]; done)), H', ⟨Nat.le_refl _⟩, ⟨by (with_reducible repeat (first | refine blk_drewN ?_ _ | refine blk_drew ?_ | refine blk_alloc ?_ _)); refine blk_far ?_ NB105_106.out _; (with_reducible repeat (first | refine blk_drewN ?_ _ | refine blk_drew ?_ | refine blk_alloc ?_ _)); refine blk_far ?_ NB105_106.out _; (with_reducible repeat (first | refine blk_drewN ?_ _ | refine blk_drew ?_ | refine blk_alloc ?_ _)); exact BK105.out⟩, ⟨by (with_reducible repeat (first | refine blk_drewN ?_ _ | refine blk_drew ?_ | refine blk_alloc ?_ _)); refine blk_put (cs := #[.int .u32 0, .int .i64 0]) ?_ 1 _ rfl; (with_reducible repeat (first | refine blk_drewN ?_ _ | refine blk_drew ?_ | refine blk_alloc ?_ _)); refine blk_put (cs := #[.int .u32 0, .int .i64 0]) ?_ 0 _ rfl; (with_reducible repeat (first | refine blk_drewN ?_ _ | refine blk_drew ?_ | refine blk_alloc ?_ _)); exact BK106.out⟩, ⟨by repeat (first | (with_reducible first | exact HB.out | apply below_alloc | apply pw_below_drewN | apply below_drew1 | refine below_set ?_ GE105.out | refine below_set ?_ GE106.out) | exact HB.out)⟩⟩
        case round =>
          clear H'
          try clear c2
          try clear p2
          try clear c5
          try clear c5b0
          try clear c6
          try clear c9
          try clear hcz10_0
          try clear hcz10_1
          try clear hcz7_0
          try clear hcz7_1
          try clear hfz10_0
          try clear hfz10_1
          try clear hfz7_0
          try clear hfz7_1
          try clear p2
          obtain ⟨x7_2, x107000_2, rfl, HA, HK2, BK105, BK106, HB⟩ := hrel
          cases gk with
          | zero => exact absurd HA.out (by simp [interregnumref05_Make.l0])
          | succ k2 =>
            have H := HA.out
            clear HA
            simp only [interregnumref05_Make.l0] at H
            by_cases c11 : x7_2 < a1
            · rw [if_pos c11] at H
              have c11b0 : decide (x7_2 < a1) = true := decide_eq_true c11
              clear c11
              replace H := Option.bind_eq_some_iff.mp H
              obtain ⟨t107, A120, H⟩ := H
              replace H : (if 0 ≤ (IntKind.u64.wrap (wrap64 (31 - x7_2))) then (interregnumref05_Make.l0 k2 a0 a1 (wrap64 (x7_2 + 1)) ((x107000_2 + (shl .u32 t107 (IntKind.u64.wrap (wrap64 (31 - x7_2))))) % 4294967296) a1) else (none)) = some (r1, r2, r3) := H
              have A12 := Aside0.mk A120
              clear A120
              obtain ⟨ji13, hji13⟩ : ∃ j_ : Int, (IntKind.u64.wrap (wrap64 (31 - x7_2))) = j_ := ⟨_, rfl⟩
              replace H : (if 0 ≤ (ji13) then (interregnumref05_Make.l0 k2 a0 a1 (wrap64 (x7_2 + 1)) ((x107000_2 + (shl .u32 t107 (ji13))) % 4294967296) a1) else (none)) = some (r1, r2, r3) := by first | (rw [hji13] at H; exact H) | (simp only [hji13] at H ⊢; exact H)
              (try rw [hji13] at A12)
              by_cases c14 : 0 ≤ (ji13)
              · rw [if_pos c14] at H
                have c14b0 := eq_true c14
                have c14b1 : decide (0 ≤ (ji13)) = true := decide_eq_true c14
                clear c14
                obtain ⟨ji15, hji15⟩ : ∃ j_ : Int, (shl .u32 t107 (ji13)) = j_ := ⟨_, rfl⟩
                replace H : (interregnumref05_Make.l0 k2 a0 a1 (wrap64 (x7_2 + 1)) ((x107000_2 + (ji15)) % 4294967296) a1) = some (r1, r2, r3) := by first | (rw [hji15] at H; exact H) | (simp only [hji15] at H ⊢; exact H)
                (try rw [hji15] at A12)
                have hji15_ : (IntKind.u32.wrap (t107 * 2 ^ min (ji13).toNat 32)) = ji15 := hji15
                have hji15z : (ji13) ≤ 32 → (IntKind.u32.wrap (t107 * 2 ^ (ji13).toNat)) = ji15 := shl_small hji15
                have H' := Aside0.mk H
                clear H
                try go_wp2
                have n0_ := Aside0.mk (blk_drew BK105.out)
                have n1_ := Aside0.mk (blk_drew BK106.out)
                have n2_ := Aside0.mk (below_drew1 HB.out)
                clear BK105
                clear BK106
                clear HB
                have BK105 := n0_
                have BK106 := n1_
                have HB := n2_
                clear n0_ n1_ n2_
                refine start_ (n := 12) (S := fun w' => w'.cell? ⟨gb106, 0, none⟩ = some (.int .u32 x107000_2) ∧ w'.cell? ⟨gb106, 1, none⟩ = some (.int .i64 a1)) (ds := [11]) #[false, false, false, false, false, false, false, false, false, false, false, false] (by kernel_rfl) rfl rfl ⟨(blk_cell BK106.out 0).trans rfl, (blk_cell BK106.out 1).trans rfl⟩ (fun hHeld => ?_); refine with_tabW interregnumref05_Make.tab7 interregnumref05_Make.bits7 (fun HT_ HW_ => ?_)
                generalize wr.drew = w16 at BK105 BK106 HB hHeld ⊢
                refine pure_ (i := 0) (N := some 22) (v := ?_) (a' := ?_) #[true, false, false, false, false, false, false, false, false, false, false, false] rfl rfl (any_of HT_.out (by kernel_rfl)) (fun _ _ _ h => h) (Or.inl ⟨by rfl, ?_⟩) ?_ ?_
                rotate_left
                · intro w'
                  go_simp
                  with_reducible rfl
                rotate_left
                · simp only [Act.put, List.setIfInBounds_toArray, List.set_cons_zero, List.set_cons_succ, i64_w, i32_w]
                  rfl
                refine pure_ (i := 2) (N := some 24) (v := ?_) (a' := ?_) #[true, false, true, false, false, false, false, false, false, false, false, false] rfl rfl (any_of HT_.out (by kernel_rfl)) (fun _ _ _ h => h) (Or.inl ⟨by rfl, ?_⟩) ?_ ?_
                rotate_left
                · intro w'
                  go_simp
                  with_reducible rfl
                rotate_left
                · simp only [Act.put, List.setIfInBounds_toArray, List.set_cons_zero, List.set_cons_succ, i64_w, i32_w]
                  rfl
                refine pure_ (i := 3) (N := some 25) (v := ?_) (a' := ?_) #[true, false, true, true, false, false, false, false, false, false, false, false] rfl rfl (any_of HT_.out (by kernel_rfl)) (fun _ _ _ h => h) (Or.inl ⟨by rfl, ?_⟩) ?_ ?_
                rotate_left
                · intro w'
                  go_simp
                  with_reducible rfl
                rotate_left
                · simp only [Act.put, List.setIfInBounds_toArray, List.set_cons_zero, List.set_cons_succ, i64_w, i32_w]
                  rfl
                refine pure_ (i := 5) (N := some 27) (v := ?_) (a' := ?_) #[true, false, true, true, false, true, false, false, false, false, false, false] rfl rfl (any_of HT_.out (by kernel_rfl)) (fun _ _ _ h => h) (Or.inl ⟨by rfl, ?_⟩) ?_ ?_
                rotate_left
                · intro w'
                  go_simp
                  with_reducible rfl
                rotate_left
                · simp only [Act.put, List.setIfInBounds_toArray, List.set_cons_zero, List.set_cons_succ, i64_w, i32_w]
                  rfl
                refine pure_ (i := 6) (N := some 28) (v := ?_) (a' := ?_) #[true, false, true, true, false, true, true, false, false, false, false, false] rfl rfl (any_of HT_.out (by kernel_rfl)) (fun _ _ _ h => h) (Or.inl ⟨by rfl, ?_⟩) ?_ ?_
                rotate_left
                · intro w'
                  go_simp
                  with_reducible rfl
                rotate_left
                · simp only [Act.put, List.setIfInBounds_toArray, List.set_cons_zero, List.set_cons_succ, i64_w, i32_w]
                  rfl
                refine pure_ (i := 7) (N := some 29) (v := ?_) (a' := ?_) #[true, false, true, true, false, true, true, true, false, false, false, false] rfl rfl (any_of HT_.out (by kernel_rfl)) (fun _ _ _ h => h) (Or.inl ⟨by rfl, ?_⟩) ?_ ?_
                rotate_left
                · intro w'
                  go_simp
                  with_reducible rfl
                rotate_left
                · simp only [Act.put, List.setIfInBounds_toArray, List.set_cons_zero, List.set_cons_succ, i64_w, i32_w]
                  rfl
                refine take_ (i := 1) (N := some 23) (v := ?_) (a' := ?_) #[true, true, true, true, false, true, true, true, false, false, false, false] rfl rfl (take_ofW HT_.out HW_.out (by kernel_rfl)) (fun _ _ _ h => h) (Or.inl ⟨by rfl, ?_⟩) hHeld ?_ ?_
                rotate_left
                · rintro w' ⟨s0, s1⟩
                  go_simp
                  with_reducible rfl
                rotate_left
                · simp only [Act.put, List.setIfInBounds_toArray, List.set_cons_zero, List.set_cons_succ, i64_w, i32_w]
                  rfl
                refine one_ (i := 4) (N := some 26) #[true, true, true, true, true, true, true, true, false, false, false, false] rfl rfl (one_of HT_.out (by kernel_rfl)) (by decide) (fun K hK => ?_)
                refine goes_ Try.func43 (by kernel_rfl) rfl #[.int .u32 a0, .int .i64 x7_2] (by rfl) rfl rfl (by (try simp only [List.map_toArray, List.map_cons, List.map_nil]); first | done | rfl | (simp only [List.length_drop, List.length_take]; rfl)) ?_
                with_reducible refine (interregnumref05_Bit.calls a0 x7_2 t107 _ A12.out).mono ?_
                rintro e w' ⟨rfl, ⟨nd, rfl⟩⟩
                refine ⟨_, rfl, ?_⟩
                refine hK.out _ _ ⟨(blk_cell BK106.out 0).trans rfl, (blk_cell BK106.out 1).trans rfl⟩ (fun hHeld => ?_)
                clear hK K
                refine norm_ (a' := ?_) ?_ ?_
                rotate_left
                · show Act.put _ (some 26) _ = _
                  simp only [Act.put, List.setIfInBounds_toArray, List.set_cons_zero, List.set_cons_succ, i64_w, i32_w]
                  rfl
                refine pure_ (i := 8) (N := some 30) (v := ?_) (a' := ?_) #[true, true, true, true, true, true, true, true, true, false, false, false] rfl rfl (any_of HT_.out (by kernel_rfl)) (fun _ _ _ h => h) (Or.inl ⟨by rfl, ?_⟩) ?_ ?_
                rotate_left
                · intro w'
                  go_simp
                  with_reducible rfl
                rotate_left
                · simp only [Act.put, List.setIfInBounds_toArray, List.set_cons_zero, List.set_cons_succ, i64_w, i32_w]
                  rfl
                refine pure_ (i := 9) (N := some 31) (v := ?_) (a' := ?_) #[true, true, true, true, true, true, true, true, true, true, false, false] rfl rfl (any_of HT_.out (by kernel_rfl)) (fun _ _ _ h => h) (Or.inl ⟨by rfl, ?_⟩) ?_ ?_
                rotate_left
                · intro w'
                  go_simp
                  with_reducible rfl
                rotate_left
                · simp only [Act.put, List.setIfInBounds_toArray, List.set_cons_zero, List.set_cons_succ, i64_w, i32_w]
                  rfl
                refine pure_ (i := 10) (N := some 32) (v := ?_) (a' := ?_) #[true, true, true, true, true, true, true, true, true, true, true, false] rfl rfl (any_of HT_.out (by kernel_rfl)) (fun _ _ _ h => h) (Or.inl ⟨by rfl, ?_⟩) ?_ ?_
                rotate_left
                · intro w'
                  go_simp
                  with_reducible rfl
                rotate_left
                · simp only [Act.put, List.setIfInBounds_toArray, List.set_cons_zero, List.set_cons_succ, i64_w, i32_w]
                  rfl
                refine last_ (i := 11) (N := none) #[true, true, true, true, true, true, true, true, true, true, true, true] rfl rfl (one_of HT_.out (by kernel_rfl)) (by decide) (fun K hK => ?_)
                have hs17 : w16.cell? ⟨gb106, 0, none⟩ = some (.int .u32 x107000_2) := (blk_cell BK106.out 0).trans rfl
                have hfs17 := blk_frozen BK106.out 0
                have hns17_0 := NB105_106.out
                have hms17_0 := NB106_105.out
                refine skip_ (w1 := ?_) (by rfl) rfl ?_ ?_
                rotate_left
                · go_simp
                  rfl
                refine hK.out _ _ ?_
                clear hK K
                refine done_ (done_of HT_.out (by kernel_rfl)) ?_
                try go_wp2
                go_roundg k2
                case measure => have := HJ2.out; have := HK2.out; omega
                case rel => exact ⟨(wrap64 (x7_2 + 1)), ((x107000_2 + (ji15)) % 4294967296), (by first | rfl | (simp; done) | (simp [*]; done)), H', ⟨by have := HJ2.out; have := HK2.out; omega⟩, ⟨by (with_reducible repeat (first | refine blk_drewN ?_ _ | refine blk_drew ?_ | refine blk_alloc ?_ _)); refine blk_far ?_ NB105_106.out _; (with_reducible repeat (first | refine blk_drewN ?_ _ | refine blk_drew ?_ | refine blk_alloc ?_ _)); exact BK105.out⟩, ⟨by (with_reducible repeat (first | refine blk_drewN ?_ _ | refine blk_drew ?_ | refine blk_alloc ?_ _)); refine blk_put (cs := #[.int .u32 x107000_2, .int .i64 a1]) ?_ 0 _ rfl; (with_reducible repeat (first | refine blk_drewN ?_ _ | refine blk_drew ?_ | refine blk_alloc ?_ _)); exact BK106.out⟩, ⟨by repeat (first | (with_reducible first | exact HB.out | apply below_alloc | apply pw_below_drewN | apply below_drew1 | refine below_set ?_ GE105.out | refine below_set ?_ GE106.out) | exact HB.out)⟩⟩
              · rw [if_neg c14] at H
                exact absurd H (by simp)
            · rw [if_neg c11] at H
              have c11b0 : decide (x7_2 < a1) = false := decide_eq_false c11
              clear c11
              simp only [Option.some.injEq, Prod.mk.injEq] at H
              obtain ⟨rfl, rfl, rfl⟩ := H
              have hnb18 := NB106_105.out
              have hnc18 := NB105_106.out
              have hcz19_0 : wr.cell? ⟨gb106, 0, none⟩ = some (.int .u32 x107000_2) := (blk_cell BK106.out 0).trans rfl
              have hcz19_1 : wr.cell? ⟨gb106, 1, none⟩ = some (.int .i64 a1) := (blk_cell BK106.out 1).trans rfl
              have hfz19_0 := blk_frozen BK106.out 0
              have hfz19_1 := blk_frozen BK106.out 1
              have hcz20_0 : wr.cell? ⟨gb105, 0, none⟩ = some (.int .u32 0) := (blk_cell BK105.out 0).trans rfl
              have hcz20_1 : wr.cell? ⟨gb105, 1, none⟩ = some (.int .i64 0) := (blk_cell BK105.out 1).trans rfl
              have hfz20_0 := blk_frozen BK105.out 0
              have hfz20_1 := blk_frozen BK105.out 1
              go_wp2
              refine bodyPost_ret (results_ct rfl _ _ gb105 45 #[.int .u32 x107000_2, .int .i64 a1] (0, 0) _ rfl (by (with_reducible repeat (first | refine blk_drewN ?_ _ | refine blk_drew ?_ | refine blk_alloc ?_ _)); refine blk_put (cs := #[.int .u32 x107000_2, .int .i64 0]) ?_ 1 _ rfl; (with_reducible repeat (first | refine blk_drewN ?_ _ | refine blk_drew ?_ | refine blk_alloc ?_ _)); refine blk_put (cs := #[.int .u32 0, .int .i64 0]) ?_ 0 _ rfl; (with_reducible repeat (first | refine blk_drewN ?_ _ | refine blk_drew ?_ | refine blk_alloc ?_ _)); exact BK105.out) Try.underlying45 rfl (by kernel_rfl)) rfl ?_
              exact ⟨by first | rfl | (simp [errW_none, errW_some] <;> rfl) | (simp [*, errW_none, errW_some] <;> rfl), by repeat (first | (with_reducible first | exact HB.out | apply below_alloc | apply pw_below_drewN | apply below_drew1 | refine below_set ?_ GE105.out | refine below_set ?_ GE106.out) | exact HB.out)⟩

/-! ### prefix_Make: function 45 -/
def prefix_Make.f (a0 : Int) (a1 : Int) : Option (Int × Int × Bool) := if a1 < 0 then (some (0, 0, false)) else (if a1 > 32 then (some (0, 0, false)) else ((prefix_mask.f a1).bind fun t109 => (some (Go.bits .and .u32 a0 t109, a1, true))))
set_option maxHeartbeats 8000000 in
set_option maxRecDepth 100000 in
theorem prefix_Make.calls (a0 : Int) (a1 : Int) (r1 : Int) (r2 : Int) (r3 : Bool) (w : World) (h : prefix_Make.f a0 a1 = some (r1, r2, r3)) :
    Calls Try.prog 45 #[.int .u32 a0, .int .i64 a1] w fun e w' => e = .returned (.tuple #[.agg #[.int .u32 r1, .int .i64 r2], .bool r3]) ∧ Below w.heap.size w w' := by
  have hu45 := Try.underlying45
  have HB := Aside0.mk (Below.refl w.heap.size w)
  have H : (if a1 < 0 then (some (0, 0, false)) else (if a1 > 32 then (some (0, 0, false)) else ((prefix_mask.f a1).bind fun t109 => (some (Go.bits .and .u32 a0 t109, a1, true))))) = some (r1, r2, r3) := h
  clear h
  by_cases c3 : a1 < 0
  · rw [if_pos c3] at H
    have c3b0 : decide (a1 < 0) = true := decide_eq_true c3
    clear c3
    simp only [Option.some.injEq, Prod.mk.injEq] at H
    obtain ⟨rfl, rfl, rfl⟩ := H
    go_enter Try.func45, Try.ntmps45
    go_wp2_with (first | ((with_reducible refine gate_dst (N := 4) rfl ?_); refine box_event ?hg (N := 4) ?hd (cs := #[.int .u32 0, .int .i64 0]) (t := 45) ?hr ?_; (case hd => rfl); (case hg => rfl); (case hr => first | (go_simp; done) | (go_simp; rfl) | (go_simp; simp [IntKind.wrap_u8, IntKind.wrap_u32]; done)); intro gb108 hg w4 hbox hb; have n0_ := Aside0.mk (below_step (by repeat (first | (with_reducible first | exact HB.out | apply below_alloc | apply pw_below_drewN | apply below_drew1) | exact HB.out)) hb); have n1_ := Aside0.mk (hbox); have n2_ := Aside0.mk ((by rw [hg]; exact (below_size (by repeat (first | (with_reducible first | exact HB.out | apply below_alloc | apply pw_below_drewN | apply below_drew1) | exact HB.out))) : w.heap.size ≤ gb108)); have n3_ := Aside0.mk ((by rw [hg]; exact (below_size (by repeat (first | (with_reducible first | exact HB.out | apply below_alloc | apply pw_below_drewN | apply below_drew1) | exact HB.out))) : w.heap.size ≤ gb108)); clear HB; have HB := n0_; have BK108 := n1_; have GW108 := n2_; have GE108 := n3_; clear n0_ n1_ n2_ n3_; clear hb hbox hg; have hcz5_0 : w4.cell? ⟨gb108, 0, none⟩ = some (.int .u32 0) := (blk_cell BK108.out 0).trans rfl; have hcz5_1 : w4.cell? ⟨gb108, 1, none⟩ = some (.int .i64 0) := (blk_cell BK108.out 1).trans rfl; have hfz5_0 := blk_frozen BK108.out 0; have hfz5_1 := blk_frozen BK108.out 1))
    refine bodyPost_ret (results_ct rfl _ _ gb108 45 #[.int .u32 0, .int .i64 0] (0, 0) _ rfl (by (with_reducible repeat (first | refine blk_drewN ?_ _ | refine blk_drew ?_ | refine blk_alloc ?_ _)); refine blk_put (cs := #[.int .u32 0, .int .i64 0]) ?_ 1 _ rfl; (with_reducible repeat (first | refine blk_drewN ?_ _ | refine blk_drew ?_ | refine blk_alloc ?_ _)); refine blk_put (cs := #[.int .u32 0, .int .i64 0]) ?_ 0 _ rfl; (with_reducible repeat (first | refine blk_drewN ?_ _ | refine blk_drew ?_ | refine blk_alloc ?_ _)); exact BK108.out) Try.underlying45 rfl (by kernel_rfl)) rfl ?_
    exact ⟨by first | rfl | (simp [errW_none, errW_some] <;> rfl) | (simp [*, errW_none, errW_some] <;> rfl), by repeat (first | (with_reducible first | exact HB.out | apply below_alloc | apply pw_below_drewN | apply below_drew1 | refine below_set ?_ GE108.out) | exact HB.out)⟩
  · rw [if_neg c3] at H
    have c3b0 : decide (a1 < 0) = false := decide_eq_false c3
    clear c3
    by_cases c6 : a1 > 32
    · rw [if_pos c6] at H
      have c6b0 : decide (32 < a1) = true := decide_eq_true c6
      clear c6
      simp only [Option.some.injEq, Prod.mk.injEq] at H
      obtain ⟨rfl, rfl, rfl⟩ := H
      go_enter Try.func45, Try.ntmps45
      go_wp2_with (first | ((with_reducible refine gate_dst (N := 4) rfl ?_); refine box_event ?hg (N := 4) ?hd (cs := #[.int .u32 0, .int .i64 0]) (t := 45) ?hr ?_; (case hd => rfl); (case hg => rfl); (case hr => first | (go_simp; done) | (go_simp; rfl) | (go_simp; simp [IntKind.wrap_u8, IntKind.wrap_u32]; done)); intro gb108 hg w7 hbox hb; have n0_ := Aside0.mk (below_step (by repeat (first | (with_reducible first | exact HB.out | apply below_alloc | apply pw_below_drewN | apply below_drew1) | exact HB.out)) hb); have n1_ := Aside0.mk (hbox); have n2_ := Aside0.mk ((by rw [hg]; exact (below_size (by repeat (first | (with_reducible first | exact HB.out | apply below_alloc | apply pw_below_drewN | apply below_drew1) | exact HB.out))) : w.heap.size ≤ gb108)); have n3_ := Aside0.mk ((by rw [hg]; exact (below_size (by repeat (first | (with_reducible first | exact HB.out | apply below_alloc | apply pw_below_drewN | apply below_drew1) | exact HB.out))) : w.heap.size ≤ gb108)); clear HB; have HB := n0_; have BK108 := n1_; have GW108 := n2_; have GE108 := n3_; clear n0_ n1_ n2_ n3_; clear hb hbox hg; have hcz8_0 : w7.cell? ⟨gb108, 0, none⟩ = some (.int .u32 0) := (blk_cell BK108.out 0).trans rfl; have hcz8_1 : w7.cell? ⟨gb108, 1, none⟩ = some (.int .i64 0) := (blk_cell BK108.out 1).trans rfl; have hfz8_0 := blk_frozen BK108.out 0; have hfz8_1 := blk_frozen BK108.out 1))
      refine bodyPost_ret (results_ct rfl _ _ gb108 45 #[.int .u32 0, .int .i64 0] (0, 0) _ rfl (by (with_reducible repeat (first | refine blk_drewN ?_ _ | refine blk_drew ?_ | refine blk_alloc ?_ _)); refine blk_put (cs := #[.int .u32 0, .int .i64 0]) ?_ 1 _ rfl; (with_reducible repeat (first | refine blk_drewN ?_ _ | refine blk_drew ?_ | refine blk_alloc ?_ _)); refine blk_put (cs := #[.int .u32 0, .int .i64 0]) ?_ 0 _ rfl; (with_reducible repeat (first | refine blk_drewN ?_ _ | refine blk_drew ?_ | refine blk_alloc ?_ _)); exact BK108.out) Try.underlying45 rfl (by kernel_rfl)) rfl ?_
      exact ⟨by first | rfl | (simp [errW_none, errW_some] <;> rfl) | (simp [*, errW_none, errW_some] <;> rfl), by repeat (first | (with_reducible first | exact HB.out | apply below_alloc | apply pw_below_drewN | apply below_drew1 | refine below_set ?_ GE108.out) | exact HB.out)⟩
    · rw [if_neg c6] at H
      have c6b0 : decide (32 < a1) = false := decide_eq_false c6
      clear c6
      replace H := Option.bind_eq_some_iff.mp H
      obtain ⟨t109, A90, H⟩ := H
      replace H : (some (Go.bits .and .u32 a0 t109, a1, true)) = some (r1, r2, r3) := H
      have A9 := Aside0.mk A90
      clear A90
      simp only [Option.some.injEq, Prod.mk.injEq] at H
      obtain ⟨rfl, rfl, rfl⟩ := H
      go_enter Try.func45, Try.ntmps45
      go_wp2_with (first | ((with_reducible refine gate_dst (N := 4) rfl ?_); refine box_event ?hg (N := 4) ?hd (cs := #[.int .u32 0, .int .i64 0]) (t := 45) ?hr ?_; (case hd => rfl); (case hg => rfl); (case hr => first | (go_simp; done) | (go_simp; rfl) | (go_simp; simp [IntKind.wrap_u8, IntKind.wrap_u32]; done)); intro gb108 hg w10 hbox hb; have n0_ := Aside0.mk (below_step (by repeat (first | (with_reducible first | exact HB.out | apply below_alloc | apply pw_below_drewN | apply below_drew1) | exact HB.out)) hb); have n1_ := Aside0.mk (hbox); have n2_ := Aside0.mk ((by rw [hg]; exact (below_size (by repeat (first | (with_reducible first | exact HB.out | apply below_alloc | apply pw_below_drewN | apply below_drew1) | exact HB.out))) : w.heap.size ≤ gb108)); have n3_ := Aside0.mk ((by rw [hg]; exact (below_size (by repeat (first | (with_reducible first | exact HB.out | apply below_alloc | apply pw_below_drewN | apply below_drew1) | exact HB.out))) : w.heap.size ≤ gb108)); clear HB; have HB := n0_; have BK108 := n1_; have GW108 := n2_; have GE108 := n3_; clear n0_ n1_ n2_ n3_; clear hb hbox hg) | ((with_reducible refine gate_callee (f := 50) rfl ?_); refine goesL_ (some 15) rfl rfl Try.func50 (by kernel_rfl) rfl #[.int .i64 a1] rfl (by (try simp only [List.map_toArray, List.map_cons, List.map_nil]); first | done | rfl | (simp only [List.length_drop, List.length_take]; rfl)) ?_; (with_reducible refine (prefix_mask.calls a1 t109 _ A9.out).mono ?_); rintro e w' ⟨rfl, ⟨nd, rfl⟩⟩; refine ⟨_, rfl, ?_⟩; (try (rw [drewN_self w10]; generalize hq_ : World.drewN w10 _ = w10; have n0_ : Aside0 (w10.heap[gb108]? = some (.cells #[.int .u32 0, .int .i64 0] 45 (0, 0))) := ⟨by rw [← hq_]; exact (by (with_reducible repeat (first | refine blk_drewN ?_ _ | refine blk_drew ?_ | refine blk_alloc ?_ _)); exact BK108.out)⟩; have n1_ : Aside0 (Below w.heap.size w w10) := ⟨by rw [← hq_]; exact (by repeat (first | (with_reducible first | exact HB.out | apply below_alloc | apply pw_below_drewN | apply below_drew1 | refine below_set ?_ GE108.out) | exact HB.out))⟩; clear BK108 HB hq_; have BK108 := n0_; have HB := n1_; clear n0_ n1_)); have hcz11_0 : w10.cell? ⟨gb108, 0, none⟩ = some (.int .u32 0) := (blk_cell BK108.out 0).trans rfl; have hcz11_1 : w10.cell? ⟨gb108, 1, none⟩ = some (.int .i64 0) := (blk_cell BK108.out 1).trans rfl; have hfz11_0 := blk_frozen BK108.out 0; have hfz11_1 := blk_frozen BK108.out 1))
      refine bodyPost_ret (results_ct rfl _ _ gb108 45 #[.int .u32 (Go.bits .and .u32 a0 t109), .int .i64 a1] (0, 0) _ rfl (by (with_reducible repeat (first | refine blk_drewN ?_ _ | refine blk_drew ?_ | refine blk_alloc ?_ _)); refine blk_put (cs := #[.int .u32 (Go.bits .and .u32 a0 t109), .int .i64 0]) ?_ 1 _ rfl; (with_reducible repeat (first | refine blk_drewN ?_ _ | refine blk_drew ?_ | refine blk_alloc ?_ _)); refine blk_put (cs := #[.int .u32 0, .int .i64 0]) ?_ 0 _ rfl; (with_reducible repeat (first | refine blk_drewN ?_ _ | refine blk_drew ?_ | refine blk_alloc ?_ _)); exact BK108.out) Try.underlying45 rfl (by kernel_rfl)) rfl ?_
      exact ⟨by first | rfl | (simp [errW_none, errW_some] <;> rfl) | (simp [*, errW_none, errW_some] <;> rfl), by repeat (first | (with_reducible first | exact HB.out | apply below_alloc | apply pw_below_drewN | apply below_drew1 | refine below_set ?_ GE108.out) | exact HB.out)⟩

/-! ### trie_Trie_Find: function 29 -/
-- FN rounds=0 making=1
-- IMPORT Derived.Test.YtbnchdfmkmkhnaaMid
open Go.Proofs.Ytbnchdfmkmkhnaa.Trie Go.Proofs.Ytbnchdfmkmkhnaa.Pre in
def trie_Trie_Find.f (s : Trie.TrieM) (a1 : Int) : Option (Int × Int × Int × Bool × Trie.TrieM) :=
  if 0 ≤ a1 ∧ a1 < 4294967296 then (match Trie.best s a1 32 with
    | none => some (0, 0, 0, false, s)
    | some q => some (top a1 q.1, q.1, q.2, true, s)) else none
open Go.Proofs.Ytbnchdfmkmkhnaa.Trie Go.Proofs.Ytbnchdfmkmkhnaa.Pre in
/-- what is found of the first k paths -/
def trie_lt (s : Trie.TrieM) (a : Int) : Nat → Option (Nat × Int)
  | 0 => none
  | k + 1 => Trie.best s a k
open Go.Proofs.Ytbnchdfmkmkhnaa.Trie Go.Proofs.Ytbnchdfmkmkhnaa.Pre in
theorem trie_lt_none {s : Trie.TrieM} {a : Int} {k : Nat} (h : s (path a k) = none) : trie_lt s a (k + 1) = trie_lt s a k := by
  cases k with
  | zero =>
    have h : s [] = none := h
    show (s []).map _ = none
    rw [h]
    rfl
  | succ k =>
    show Trie.best s a (k + 1) = Trie.best s a k
    conv => lhs; unfold Trie.best
    rw [h]
open Go.Proofs.Ytbnchdfmkmkhnaa.Trie Go.Proofs.Ytbnchdfmkmkhnaa.Pre in
theorem trie_lt_some {s : Trie.TrieM} {a v : Int} {k : Nat} (h : s (path a k) = some v) : trie_lt s a (k + 1) = some (k, v) := by
  cases k with
  | zero =>
    have h : s [] = some v := h
    show (s []).map _ = _
    rw [h]
    rfl
  | succ k =>
    show Trie.best s a (k + 1) = _
    unfold Trie.best
    rw [h]
open Go.Proofs.Ytbnchdfmkmkhnaa.Trie Go.Proofs.Ytbnchdfmkmkhnaa.Pre in
theorem trie_lt_top {w0 W : World} {g : Nat} {s : Trie.TrieM} {M : List Bool → Option Nat} (h : IsM w0 W g s M) (a : Int) (k : Nat) (hk : M (path a (k + 1)) = none) (d : Nat) : trie_lt s a (k + 1 + d) = trie_lt s a (k + 1) := by
  induction d with
  | zero => rfl
  | succ d ih => exact (trie_lt_none (h.none_ _ (trie_none_up h a (k + 1) hk d))).trans ih
open Go.Proofs.Ytbnchdfmkmkhnaa.Pre in
def trie_p0 (a : Int) (o : Option (Nat × Int)) : Int := match o with
  | none => 0
  | some q => top a q.1
def trie_p1 (o : Option (Nat × Int)) : Int := match o with
  | none => 0
  | some q => q.1
def trie_v (o : Option (Nat × Int)) : Int := match o with
  | none => 0
  | some q => q.2
open Go.Proofs.Ytbnchdfmkmkhnaa.Trie Go.Proofs.Ytbnchdfmkmkhnaa.Pre in
theorem trie_make_eq (a : Int) (n : Nat) (ha : U32 a) (h : n ≤ 32) : prefix_Make.f a n = some (top a n, (n : Int), true) := by
  unfold prefix_Make.f
  rw [if_neg (by omega), if_neg (by omega)]
  unfold prefix_mask.f
  rw [if_pos (by omega), mask_eq n (by omega) (by omega)]
  simp only [Option.bind_some]
  rw [and_mask a n ha (by omega) (by omega)]
set_option maxHeartbeats 4000000 in
set_option maxRecDepth 100000 in
open Go.Proofs.Ytbnchdfmkmkhnaa.Trie Go.Proofs.Ytbnchdfmkmkhnaa.Pre Go.Proofs.Ytbnchdfmkmkhnaa.Opq Go.Proofs.Ytbnchdfmkmkhnaa.Mid in
theorem trie_Trie_Find.calls (g : Nat) (s0_0 : Trie.TrieM) (a1 : Int) (r1 : Int) (r2 : Int) (r3 : Int) (r4 : Bool) (r5 : Trie.TrieM) (w0 w : World) (hI : IsS89 w0 w g s0_0) (hB : Below w0.heap.size w0 w) (h : trie_Trie_Find.f s0_0 a1 = some (r1, r2, r3, r4, r5)) :
    Calls Try.prog 29 #[.pointer (some ⟨g, 0, none⟩), .int .u32 a1] w fun e w' => e = .returned (.tuple #[.agg #[.int .u32 r1, .int .i64 r2], .int .i64 r3, .bool r4]) ∧ IsS89 w0 w' g r5 ∧ Below w0.heap.size w0 w' ∧ Go.Proofs.Ytbnchdfmkmkhnaa.Opq.KeepO ts89 w0.heap.size w w' := by
  have hu45 := Try.underlying45
  unfold trie_Trie_Find.f at h
  split at h
  case isFalse => cases h
  case isTrue hu =>
  have h : some (trie_p0 a1 (trie_lt s0_0 a1 33), trie_p1 (trie_lt s0_0 a1 33), trie_v (trie_lt s0_0 a1 33), (trie_lt s0_0 a1 33).isSome, s0_0) = some (r1, r2, r3, r4, r5) := by
    rw [← h]
    show _ = match trie_lt s0_0 a1 33 with | none => _ | some q => _
    cases trie_lt s0_0 a1 33 <;> rfl
  injection h with h
  injection h with h1 h
  injection h with h2 h
  injection h with h3 h
  injection h with h4 h5
  subst h1 h2 h3 h4 h5
  obtain ⟨M, hM⟩ := hI
  have HI := Aside0.mk hM
  have HB := Aside0.mk hB
  have HU := Aside0.mk (show U32 a1 from hu)
  clear hu hM hB
  go_enter Try.func29, Try.ntmps29
  go_wp2
  go_loopg [5, 6, 7, 8] 33 (fun kq v5 v6 v7 v8 wr => ∃ k b : Nat, v5 = .int .i64 (trie_v (trie_lt s0_0 a1 k)) ∧ v6 = .bool (trie_lt s0_0 a1 k).isSome ∧ v7 = .pointer (some ⟨b, 0, none⟩) ∧ v8 = .int .i64 k ∧ Aside0 (k + kq = 33 ∧ M (path a1 k) = some b) ∧ Aside0 (Below w.heap.size w wr) ∧
    Aside0 (wr.heap[w.heap.size]? = some (.cells #[.int .u32 (trie_p0 a1 (trie_lt s0_0 a1 k)), .int .i64 (trie_p1 (trie_lt s0_0 a1 k))] 45 (0, 0))))
  case atStart => exact ⟨0, g, rfl, rfl, rfl, rfl, ⟨rfl, HI.out.top⟩, ⟨below_alloc (Below.refl _ _) _⟩, ⟨heap_alloc_new w _⟩⟩
  case round =>
    obtain ⟨k, b, rfl, rfl, rfl, rfl, HK, HBr, HBX⟩ := hrel
    have HIr := Aside0.mk (HI.out.below HBr.out)
    have hc3 := (trie_cell2 HIr.out HK.out.2).2
    have HK32 := Aside0.mk (HIr.out.at_ _ _ HK.out.2).2.1
    cases gk with
    | zero => exact absurd HK.out.1 (by have := HK32.out; rw [path_length] at this; omega)
    | succ k1 =>
    cases hs : s0_0 (path a1 k) with
    | some v =>
      rw [hs] at hc3
      have hc2 := (trie_cell2 HIr.out HK.out.2).1
      rw [hs] at hc2
      have HS := Aside0.mk hs
      have HMK := Aside0.mk (trie_make_eq a1 k HU.out (by have := HK32.out; rwa [path_length] at this))
      clear hs
      have HL1 := Aside0.mk (trie_lt_some HS.out)
      go_wp2_with fail
      refine (prefix_Make.calls a1 k _ _ _ _ HMK.out).mono ?_
      rintro e w1 ⟨rfl, hb1⟩
      have hbx1 := (hb1.block _ (blk_lt HBX.out)).trans HBX.out
      have HB1 := Aside0.mk (HBr.out.trans (hb1.mono HBr.out.size))
      clear hb1
      go_wp2_with ((with_reducible refine gate_store (t := 45) (p := 4) rfl ?_); refine store_new rfl 45 (.tmp 4) (.tmp 25) rfl [.int .u32 (top a1 k), .int .i64 k] (by rfl) (by rfl) hbx1 (by rfl) (by kernel_rfl) (by intro v hv; simp only [List.mem_cons, List.not_mem_nil, or_false] at hv; rcases hv with rfl | rfl <;> rfl) ?_; intro w6 hx6 hg6 hs6; have HXW := Aside0.mk hx6; have HBW := Aside0.mk (HB1.out.grown hg6 HB1.out.size (fun k e => by injection e with e; omega)); have hcv := (trie_cell2 (HI.out.below HBW.out) HK.out.2).1; rw [HS.out] at hcv; clear hx6 hg6 hs6)
      have HXW := Aside0.mk (show w6.heap[w.heap.size]? = some (.cells #[.int .u32 (trie_p0 a1 (trie_lt s0_0 a1 (k + 1))), .int .i64 (trie_p1 (trie_lt s0_0 a1 (k + 1)))] 45 (0, 0)) by rw [HL1.out]; exact HXW.out)
      by_cases h32 : k = 32
      · have d0 : ((k : Int) == 32) = true := beq_iff_eq.2 (by omega)
        have HEQ := Aside0.mk (show trie_lt s0_0 a1 33 = trie_lt s0_0 a1 (k + 1) by rw [h32])
        clear h32
        go_quiet (fail)
        have hz0 : World.cell? _ ⟨w.heap.size, 0, none⟩ = some (.int .u32 (trie_p0 a1 (trie_lt s0_0 a1 (k + 1)))) := (blk_cell HXW.out 0).trans rfl
        have hz1 : World.cell? _ ⟨w.heap.size, 1, none⟩ = some (.int .i64 (trie_p1 (trie_lt s0_0 a1 (k + 1)))) := (blk_cell HXW.out 1).trans rfl
        go_wp2_with (first | ((with_reducible refine gate_store (t := 45) (p := 4) rfl ?_); refine store_new rfl 45 (.tmp 4) (.tmp 44) rfl [.int .u32 (trie_p0 a1 (trie_lt s0_0 a1 (k + 1))), .int .i64 (trie_p1 (trie_lt s0_0 a1 (k + 1)))] (by rfl) (by rfl) HXW.out (by rfl) (by kernel_rfl) (by intro v hv; simp only [List.mem_cons, List.not_mem_nil, or_false] at hv; rcases hv with rfl | rfl <;> rfl) ?_; intro w7 hx7 hg7 hs7; have HX7 := Aside0.mk hx7; have HB7 := Aside0.mk ((pw_below_drewN HBW.out _).grown hg7 HBW.out.size (fun k e => by injection e with e; omega)); clear hx7 hg7 hs7))
        refine bodyPost_ret (results_ctt rfl _ _ w.heap.size 45 #[.int .u32 (trie_p0 a1 (trie_lt s0_0 a1 (k + 1))), .int .i64 (trie_p1 (trie_lt s0_0 a1 (k + 1)))] (0, 0) _ rfl HX7.out Try.underlying45 rfl (by kernel_rfl)) rfl ?_
        refine ⟨?_, ⟨M, HI.out.below HB7.out⟩, below_weaken HB.out HB.out.size HB7.out, KeepO.of_below HB7.out⟩
        rw [show trie_lt s0_0 a1 33 = trie_lt s0_0 a1 (k + 1) from HEQ.out]
        first | rfl | (simp only [HL1.out]; rfl)
      · have d0 : ((k : Int) == 32) = false := beq_eq_false_iff_ne.2 (by omega)
        have HL32 := Aside0.mk (show k < 32 by have := HK32.out; rw [path_length] at this; omega)
        clear h32
        have hbit := trie_bit_eq a1 k HU.out HL32.out
        obtain ⟨x, hx⟩ : ∃ x : Bool, bit a1 k = if x = true then 1 else 0 := by
          rcases bit_01 a1 k with e | e
          · exact ⟨false, e⟩
          · exact ⟨true, e⟩
        have HX := Aside0.mk (trie_step x hx)
        have hc := trie_cell (HI.out.below HBW.out) HK.out.2 x
        rw [hx] at hbit
        have HBIT := Aside0.mk hbit
        clear hbit hx
        cases hm : M (x :: path a1 k) with
        | none =>
          have HEQ := Aside0.mk (show trie_lt s0_0 a1 33 = trie_lt s0_0 a1 (k + 1) by
            have := trie_lt_top HI.out a1 k (by rw [HX.out]; exact hm) (33 - (k + 1))
            rwa [show k + 1 + (33 - (k + 1)) = 33 by have := HL32.out; omega] at this)
          rw [hm, ptrB_none] at hc
          clear hm
          cases x
          all_goals
            simp only [if_true, if_false, Bool.false_eq_true] at hc
            go_quiet (first | (go_at_call 46; (with_reducible refine (trie_bit.calls a1 k _ _ HBIT.out).mono ?_); rintro e w' ⟨rfl, ⟨nd, rfl⟩⟩; (try first | exact ⟨rfl, _, World.drewN_drewN _ _ _⟩ | exact ⟨rfl, _, Eq.trans (World.drewN_drewN _ _ _) (congrArg (World.drewN _) (Nat.add_assoc _ _ _))⟩)))
            have hz0 : World.cell? _ ⟨w.heap.size, 0, none⟩ = some (.int .u32 (trie_p0 a1 (trie_lt s0_0 a1 (k + 1)))) := (blk_cell HXW.out 0).trans rfl
            have hz1 : World.cell? _ ⟨w.heap.size, 1, none⟩ = some (.int .i64 (trie_p1 (trie_lt s0_0 a1 (k + 1)))) := (blk_cell HXW.out 1).trans rfl
            go_wp2_with (first | ((with_reducible refine gate_store (t := 45) (p := 4) rfl ?_); refine store_new rfl 45 (.tmp 4) (.tmp 44) rfl [.int .u32 (trie_p0 a1 (trie_lt s0_0 a1 (k + 1))), .int .i64 (trie_p1 (trie_lt s0_0 a1 (k + 1)))] (by rfl) (by rfl) HXW.out (by rfl) (by kernel_rfl) (by intro v hv; simp only [List.mem_cons, List.not_mem_nil, or_false] at hv; rcases hv with rfl | rfl <;> rfl) ?_; intro w7 hx7 hg7 hs7; have HX7 := Aside0.mk hx7; have HB7 := Aside0.mk ((pw_below_drewN HBW.out _).grown hg7 HBW.out.size (fun k e => by injection e with e; omega)); clear hx7 hg7 hs7))
            refine bodyPost_ret (results_ctt rfl _ _ w.heap.size 45 #[.int .u32 (trie_p0 a1 (trie_lt s0_0 a1 (k + 1))), .int .i64 (trie_p1 (trie_lt s0_0 a1 (k + 1)))] (0, 0) _ rfl HX7.out Try.underlying45 rfl (by kernel_rfl)) rfl ?_
            refine ⟨?_, ⟨M, HI.out.below HB7.out⟩, below_weaken HB.out HB.out.size HB7.out, KeepO.of_below HB7.out⟩
            rw [show trie_lt s0_0 a1 33 = trie_lt s0_0 a1 (k + 1) from HEQ.out]
            first | rfl | (simp only [HL1.out]; rfl)
        | some b1 =>
          have HM := Aside0.mk hm
          rw [hm, ptrB_some] at hc
          clear hm
          cases x
          all_goals
            simp only [if_true, if_false, Bool.false_eq_true] at hc
            go_quiet (first | (go_at_call 46; (with_reducible refine (trie_bit.calls a1 k _ _ HBIT.out).mono ?_); rintro e w' ⟨rfl, ⟨nd, rfl⟩⟩; (try first | exact ⟨rfl, _, World.drewN_drewN _ _ _⟩ | exact ⟨rfl, _, Eq.trans (World.drewN_drewN _ _ _) (congrArg (World.drewN _) (Nat.add_assoc _ _ _))⟩)))
            go_wp2
            go_quiet (first | (go_at_call 46; (with_reducible refine (trie_bit.calls a1 k _ _ HBIT.out).mono ?_); rintro e w' ⟨rfl, ⟨nd, rfl⟩⟩; (try first | exact ⟨rfl, _, World.drewN_drewN _ _ _⟩ | exact ⟨rfl, _, Eq.trans (World.drewN_drewN _ _ _) (congrArg (World.drewN _) (Nat.add_assoc _ _ _))⟩)))
            go_wp2
            go_roundg k1
            case measure => have := HK.out.1; omega
            case rel =>
              refine ⟨k + 1, b1, ?_, ?_, rfl, (by have hw : wrap64 ((k : Int) + 1) = ((k + 1 : Nat) : Int) := (by have := HL32.out; unfold wrap64; omega); first | rfl | (simp [hw]; done)), ⟨by have := HK.out.1; omega, by rw [HX.out]; exact HM.out⟩, ⟨pw_below_drewN HBW.out _⟩, ⟨HXW.out⟩⟩
              all_goals (first | rfl | (simp only [HL1.out]; rfl) | (rw [HL1.out]; rfl))
    | none =>
      rw [hs] at hc3
      have HS := Aside0.mk hs
      clear hs
      have HBW := HBr
      have HXW := HBX
      rw [← trie_lt_none HS.out] at HXW ⊢
      have HL1 := Aside0.mk (show trie_lt s0_0 a1 (k + 1) = trie_lt s0_0 a1 (k + 1) from rfl)
      go_wp2
      by_cases h32 : k = 32
      · have d0 : ((k : Int) == 32) = true := beq_iff_eq.2 (by omega)
        have HEQ := Aside0.mk (show trie_lt s0_0 a1 33 = trie_lt s0_0 a1 (k + 1) by rw [h32])
        clear h32
        go_quiet (fail)
        have hz0 : World.cell? _ ⟨w.heap.size, 0, none⟩ = some (.int .u32 (trie_p0 a1 (trie_lt s0_0 a1 (k + 1)))) := (blk_cell HXW.out 0).trans rfl
        have hz1 : World.cell? _ ⟨w.heap.size, 1, none⟩ = some (.int .i64 (trie_p1 (trie_lt s0_0 a1 (k + 1)))) := (blk_cell HXW.out 1).trans rfl
        go_wp2_with (first | ((with_reducible refine gate_store (t := 45) (p := 4) rfl ?_); refine store_new rfl 45 (.tmp 4) (.tmp 44) rfl [.int .u32 (trie_p0 a1 (trie_lt s0_0 a1 (k + 1))), .int .i64 (trie_p1 (trie_lt s0_0 a1 (k + 1)))] (by rfl) (by rfl) HXW.out (by rfl) (by kernel_rfl) (by intro v hv; simp only [List.mem_cons, List.not_mem_nil, or_false] at hv; rcases hv with rfl | rfl <;> rfl) ?_; intro w7 hx7 hg7 hs7; have HX7 := Aside0.mk hx7; have HB7 := Aside0.mk ((pw_below_drewN HBW.out _).grown hg7 HBW.out.size (fun k e => by injection e with e; omega)); clear hx7 hg7 hs7))
        refine bodyPost_ret (results_ctt rfl _ _ w.heap.size 45 #[.int .u32 (trie_p0 a1 (trie_lt s0_0 a1 (k + 1))), .int .i64 (trie_p1 (trie_lt s0_0 a1 (k + 1)))] (0, 0) _ rfl HX7.out Try.underlying45 rfl (by kernel_rfl)) rfl ?_
        refine ⟨?_, ⟨M, HI.out.below HB7.out⟩, below_weaken HB.out HB.out.size HB7.out, KeepO.of_below HB7.out⟩
        rw [show trie_lt s0_0 a1 33 = trie_lt s0_0 a1 (k + 1) from HEQ.out]
        first | rfl | (simp only [HL1.out]; rfl)
      · have d0 : ((k : Int) == 32) = false := beq_eq_false_iff_ne.2 (by omega)
        have HL32 := Aside0.mk (show k < 32 by have := HK32.out; rw [path_length] at this; omega)
        clear h32
        have hbit := trie_bit_eq a1 k HU.out HL32.out
        obtain ⟨x, hx⟩ : ∃ x : Bool, bit a1 k = if x = true then 1 else 0 := by
          rcases bit_01 a1 k with e | e
          · exact ⟨false, e⟩
          · exact ⟨true, e⟩
        have HX := Aside0.mk (trie_step x hx)
        have hc := trie_cell (HI.out.below HBW.out) HK.out.2 x
        rw [hx] at hbit
        have HBIT := Aside0.mk hbit
        clear hbit hx
        cases hm : M (x :: path a1 k) with
        | none =>
          have HEQ := Aside0.mk (show trie_lt s0_0 a1 33 = trie_lt s0_0 a1 (k + 1) by
            have := trie_lt_top HI.out a1 k (by rw [HX.out]; exact hm) (33 - (k + 1))
            rwa [show k + 1 + (33 - (k + 1)) = 33 by have := HL32.out; omega] at this)
          rw [hm, ptrB_none] at hc
          clear hm
          cases x
          all_goals
            simp only [if_true, if_false, Bool.false_eq_true] at hc
            go_quiet (first | (go_at_call 46; (with_reducible refine (trie_bit.calls a1 k _ _ HBIT.out).mono ?_); rintro e w' ⟨rfl, ⟨nd, rfl⟩⟩; (try first | exact ⟨rfl, _, World.drewN_drewN _ _ _⟩ | exact ⟨rfl, _, Eq.trans (World.drewN_drewN _ _ _) (congrArg (World.drewN _) (Nat.add_assoc _ _ _))⟩)))
            have hz0 : World.cell? _ ⟨w.heap.size, 0, none⟩ = some (.int .u32 (trie_p0 a1 (trie_lt s0_0 a1 (k + 1)))) := (blk_cell HXW.out 0).trans rfl
            have hz1 : World.cell? _ ⟨w.heap.size, 1, none⟩ = some (.int .i64 (trie_p1 (trie_lt s0_0 a1 (k + 1)))) := (blk_cell HXW.out 1).trans rfl
            go_wp2_with (first | ((with_reducible refine gate_store (t := 45) (p := 4) rfl ?_); refine store_new rfl 45 (.tmp 4) (.tmp 44) rfl [.int .u32 (trie_p0 a1 (trie_lt s0_0 a1 (k + 1))), .int .i64 (trie_p1 (trie_lt s0_0 a1 (k + 1)))] (by rfl) (by rfl) HXW.out (by rfl) (by kernel_rfl) (by intro v hv; simp only [List.mem_cons, List.not_mem_nil, or_false] at hv; rcases hv with rfl | rfl <;> rfl) ?_; intro w7 hx7 hg7 hs7; have HX7 := Aside0.mk hx7; have HB7 := Aside0.mk ((pw_below_drewN HBW.out _).grown hg7 HBW.out.size (fun k e => by injection e with e; omega)); clear hx7 hg7 hs7))
            refine bodyPost_ret (results_ctt rfl _ _ w.heap.size 45 #[.int .u32 (trie_p0 a1 (trie_lt s0_0 a1 (k + 1))), .int .i64 (trie_p1 (trie_lt s0_0 a1 (k + 1)))] (0, 0) _ rfl HX7.out Try.underlying45 rfl (by kernel_rfl)) rfl ?_
            refine ⟨?_, ⟨M, HI.out.below HB7.out⟩, below_weaken HB.out HB.out.size HB7.out, KeepO.of_below HB7.out⟩
            rw [show trie_lt s0_0 a1 33 = trie_lt s0_0 a1 (k + 1) from HEQ.out]
            first | rfl | (simp only [HL1.out]; rfl)
        | some b1 =>
          have HM := Aside0.mk hm
          rw [hm, ptrB_some] at hc
          clear hm
          cases x
          all_goals
            simp only [if_true, if_false, Bool.false_eq_true] at hc
            go_quiet (first | (go_at_call 46; (with_reducible refine (trie_bit.calls a1 k _ _ HBIT.out).mono ?_); rintro e w' ⟨rfl, ⟨nd, rfl⟩⟩; (try first | exact ⟨rfl, _, World.drewN_drewN _ _ _⟩ | exact ⟨rfl, _, Eq.trans (World.drewN_drewN _ _ _) (congrArg (World.drewN _) (Nat.add_assoc _ _ _))⟩)))
            go_wp2
            go_quiet (first | (go_at_call 46; (with_reducible refine (trie_bit.calls a1 k _ _ HBIT.out).mono ?_); rintro e w' ⟨rfl, ⟨nd, rfl⟩⟩; (try first | exact ⟨rfl, _, World.drewN_drewN _ _ _⟩ | exact ⟨rfl, _, Eq.trans (World.drewN_drewN _ _ _) (congrArg (World.drewN _) (Nat.add_assoc _ _ _))⟩)))
            go_wp2
            go_roundg k1
            case measure => have := HK.out.1; omega
            case rel =>
              refine ⟨k + 1, b1, ?_, ?_, rfl, (by have hw : wrap64 ((k : Int) + 1) = ((k + 1 : Nat) : Int) := (by have := HL32.out; unfold wrap64; omega); first | rfl | (simp [hw]; done)), ⟨by have := HK.out.1; omega, by rw [HX.out]; exact HM.out⟩, ⟨pw_below_drewN HBW.out _⟩, ⟨HXW.out⟩⟩
              all_goals (first | rfl | (simp only [HL1.out]; rfl) | (rw [HL1.out]; rfl))


end Go.Proofs.Ytbnchdfmkmkhnaa.PTrieMany
