-- Lean text by a program of this repo (wip/tools/printx.py), out of Lean's own print of the translation
import Derived.Test.YtpkckkmgnlhhcaaPRouteStaticx0
import Derived.Test.YtpkckkmgnlhhcaaPRouteStaticx1
import Derived.Test.YtpkckkmgnlhhcaaPRouteStaticx3
import Derived.Test.YtpkckkmgnlhhcaaPRouteStaticx5
namespace Go.Proofs.Ytpkckkmgnlhhcaa.PRouteStatic
open Go.RowKit Go.Proofs.YtpkckkmgnlhhcaaW.PrintWords Go.Proofs.YtpkckkmgnlhhcaaW.PrintLast Go.Proofs.YtpkckkmgnlhhcaaW.PrintMore
attribute [local go_sem] max2_int min2_int max_two min_two max_three min_three max_four min_four   -- for this text's walks alone
set_option linter.unusedVariables false
set_option linter.unusedSimpArgs false

attribute [local go_sem high] eqA42
/-! ### interregnumref11_SameRoute: function 32 -/
def interregnumref11_SameRoute.f (k : Nat) (a0_0 : Int) (a0_1 : Int) (a0_2 : Int) (a0_3 : Int) (l0_4 : List (S38)) (a0_5 : Int) (a0_6 : Int) (a0_7 : Int) (l0_8 : List Int) (l0_9 : List (S58)) (a0_10 : Int) (a1_0 : Int) (a1_1 : Int) (a1_2 : Int) (a1_3 : Int) (l1_4 : List (S38)) (a1_5 : Int) (a1_6 : Int) (a1_7 : Int) (l1_8 : List Int) (l1_9 : List (S58)) (a1_10 : Int) : Option (Bool) := if (a0_0 == a1_0 && (a0_1 == a1_1)) = true then (if a0_2 = a1_2 then (if a0_10 = a1_10 then ((interregnumref05_SameAttrs.f k a0_3 l0_4 a0_5 a0_6 a0_7 l0_8 l0_9 a1_3 l1_4 a1_5 a1_6 a1_7 l1_8 l1_9).bind fun t152 => (some t152)) else (some false)) else (some false)) else (some false)
theorem interregnumref11_SameRoute.mono : ∀ a0 a1 a2 a3 a4 a5 a6 a7 a8 a9 a10 a11 a12 a13 a14 a15 a16 a17 a18 a19 a20 a21 k, LeO (interregnumref11_SameRoute.f k a0 a1 a2 a3 a4 a5 a6 a7 a8 a9 a10 a11 a12 a13 a14 a15 a16 a17 a18 a19 a20 a21) (interregnumref11_SameRoute.f (k + 1) a0 a1 a2 a3 a4 a5 a6 a7 a8 a9 a10 a11 a12 a13 a14 a15 a16 a17 a18 a19 a20 a21) := by
  intro a0 a1 a2 a3 a4 a5 a6 a7 a8 a9 a10 a11 a12 a13 a14 a15 a16 a17 a18 a19 a20 a21 k
  unfold interregnumref11_SameRoute.f
  repeat' first
      | (with_reducible exact interregnumref05_SameAttrs.mono _ _ _ _ _ _ _ _ _ _ _ _ _ _ _)
      | (with_reducible exact LeO.refl _)
      | (with_reducible exact LeO.none _)
      | (with_reducible refine LeO.ite ?_ ?_)
      | (with_reducible refine LeO.bind ?_ (fun _ => ?_))
      | exact interregnumref05_SameAttrs.mono _ _ _ _ _ _ _ _ _ _ _ _ _ _ _
      | exact LeO.none _
      | refine LeO.ite ?_ ?_
      | refine LeO.bind ?_ (fun _ => ?_)
set_option maxHeartbeats 8000000 in
set_option maxRecDepth 100000 in
theorem interregnumref11_SameRoute.calls (k : Nat) (a0_0 : Int) (a0_1 : Int) (a0_2 : Int) (a0_3 : Int) (A0_4 : Option Addr) (c0_4 : Nat) (l0_4 : List (S38)) (a0_5 : Int) (a0_6 : Int) (a0_7 : Int) (A0_8 : Option Addr) (c0_8 : Nat) (l0_8 : List Int) (A0_9 : Option Addr) (c0_9 : Nat) (l0_9 : List (S58)) (a0_10 : Int) (a1_0 : Int) (a1_1 : Int) (a1_2 : Int) (a1_3 : Int) (A1_4 : Option Addr) (c1_4 : Nat) (l1_4 : List (S38)) (a1_5 : Int) (a1_6 : Int) (a1_7 : Int) (A1_8 : Option Addr) (c1_8 : Nat) (l1_8 : List Int) (A1_9 : Option Addr) (c1_9 : Nat) (l1_9 : List (S58)) (a1_10 : Int) (r : Bool) (w : World) (hr0_4 : Kd.C k38 w A0_4 l0_4.length l0_4) (hc0_4 : l0_4.length ≤ c0_4) (hr0_8 : Kd.C (Kd.int .u32) w A0_8 l0_8.length l0_8) (hc0_8 : l0_8.length ≤ c0_8) (hr0_9 : Kd.C k58 w A0_9 l0_9.length l0_9) (hc0_9 : l0_9.length ≤ c0_9) (hr1_4 : Kd.C k38 w A1_4 l1_4.length l1_4) (hc1_4 : l1_4.length ≤ c1_4) (hr1_8 : Kd.C (Kd.int .u32) w A1_8 l1_8.length l1_8) (hc1_8 : l1_8.length ≤ c1_8) (hr1_9 : Kd.C k58 w A1_9 l1_9.length l1_9) (hc1_9 : l1_9.length ≤ c1_9) (h : interregnumref11_SameRoute.f k a0_0 a0_1 a0_2 a0_3 l0_4 a0_5 a0_6 a0_7 l0_8 l0_9 a0_10 a1_0 a1_1 a1_2 a1_3 l1_4 a1_5 a1_6 a1_7 l1_8 l1_9 a1_10 = some r) :
    Calls Try.prog 32 #[.agg #[.int .u32 a0_0, .int .i64 a0_1, .int .i64 a0_2, .int .i64 a0_3, .slice A0_4 l0_4.length c0_4, .int .u32 a0_5, .int .i64 a0_6, .int .i64 a0_7, .slice A0_8 l0_8.length c0_8, .slice A0_9 l0_9.length c0_9, .int .i64 a0_10], .agg #[.int .u32 a1_0, .int .i64 a1_1, .int .i64 a1_2, .int .i64 a1_3, .slice A1_4 l1_4.length c1_4, .int .u32 a1_5, .int .i64 a1_6, .int .i64 a1_7, .slice A1_8 l1_8.length c1_8, .slice A1_9 l1_9.length c1_9, .int .i64 a1_10]] w fun e w' => e = .returned (.bool r) ∧ Below w.heap.size w w' := by
  have hu48 := Try.underlying48
  have hu42 := Try.underlying42
  have hu46 := Try.underlying46
  have HR0_4 := Aside0.mk hr0_4
  have HC0_4 := Aside0.mk hc0_4
  clear hr0_4 hc0_4
  have HR0_8 := Aside0.mk hr0_8
  have HC0_8 := Aside0.mk hc0_8
  clear hr0_8 hc0_8
  have HR0_9 := Aside0.mk hr0_9
  have HC0_9 := Aside0.mk hc0_9
  clear hr0_9 hc0_9
  have HR1_4 := Aside0.mk hr1_4
  have HC1_4 := Aside0.mk hc1_4
  clear hr1_4 hc1_4
  have HR1_8 := Aside0.mk hr1_8
  have HC1_8 := Aside0.mk hc1_8
  clear hr1_8 hc1_8
  have HR1_9 := Aside0.mk hr1_9
  have HC1_9 := Aside0.mk hc1_9
  clear hr1_9 hc1_9
  have HB := Aside0.mk (Below.refl w.heap.size w)
  have H : (if (a0_0 == a1_0 && (a0_1 == a1_1)) = true then (if a0_2 = a1_2 then (if a0_10 = a1_10 then ((interregnumref05_SameAttrs.f k a0_3 l0_4 a0_5 a0_6 a0_7 l0_8 l0_9 a1_3 l1_4 a1_5 a1_6 a1_7 l1_8 l1_9).bind fun t152 => (some t152)) else (some false)) else (some false)) else (some false)) = some r := h
  clear h
  by_cases c3 : (a0_0 == a1_0 && (a0_1 == a1_1)) = true
  · rw [if_pos c3] at H
    have c3b0 : (a0_0 == a1_0 && (a0_1 == a1_1)) = true := c3
    (try (have c3b1 : decide (a0_0 = a1_0 && (a0_1 == a1_1)) = true := by simpa using c3))
    (try (have c3b2 : (a0_0 == a1_0 && (a0_1 == a1_1)) = true := by simpa using c3))
    clear c3
    by_cases c4 : a0_2 = a1_2
    · rw [if_pos c4] at H
      have c4b0 : (a0_2 == a1_2) = true := beq_iff_eq.mpr c4
      have c4b1 : (a0_2 != a1_2) = false := bne_eq_false_iff_eq.mpr c4
      clear c4
      by_cases c5 : a0_10 = a1_10
      · rw [if_pos c5] at H
        have c5b0 : (a0_10 == a1_10) = true := beq_iff_eq.mpr c5
        have c5b1 : (a0_10 != a1_10) = false := bne_eq_false_iff_eq.mpr c5
        clear c5
        replace H := Option.bind_eq_some_iff.mp H
        obtain ⟨t152, A60, H⟩ := H
        replace H : (some t152) = some r := H
        have A6 := Aside0.mk A60
        clear A60
        obtain rfl := Option.some.inj H
        go_enter Try.func32, Try.ntmps32
        go_wp2_with (first | ((with_reducible refine gate_dst (N := 2) rfl ?_); refine box_event ?hg (N := 2) ?hd (cs := #[.int .u32 a0_0, .int .i64 a0_1, .int .i64 a0_2, .int .i64 a0_3, .slice A0_4 l0_4.length c0_4, .int .u32 a0_5, .int .i64 a0_6, .int .i64 a0_7, .slice A0_8 l0_8.length c0_8, .slice A0_9 l0_9.length c0_9, .int .i64 a0_10]) (t := 48) ?hr ?_; (case hd => rfl); (case hg => rfl); (case hr => first | (go_simp; done) | (go_simp; rfl) | (go_simp; simp [IntKind.wrap_u8, IntKind.wrap_u32]; done)); intro gb150 hg w7 hbox hb; have n0_ := Aside0.mk (below_step (by repeat (first | (with_reducible first | exact HB.out | apply below_alloc | apply pw_below_drewN | apply below_drew1) | exact HB.out)) hb); have n1_ := Aside0.mk (hbox); have n2_ := Aside0.mk ((by rw [hg]; exact (below_size (by repeat (first | (with_reducible first | exact HB.out | apply below_alloc | apply pw_below_drewN | apply below_drew1) | exact HB.out))) : w.heap.size ≤ gb150)); have n3_ := Aside0.mk ((by rw [hg]; exact (below_size (by repeat (first | (with_reducible first | exact HB.out | apply below_alloc | apply pw_below_drewN | apply below_drew1) | exact HB.out))) : w.heap.size ≤ gb150)); clear HB; have HB := n0_; have BK150 := n1_; have GW150 := n2_; have GE150 := n3_; clear n0_ n1_ n2_ n3_; clear hb hbox hg) | ((with_reducible refine gate_dst (N := 3) rfl ?_); refine box_event ?hg (N := 3) ?hd (cs := #[.int .u32 a1_0, .int .i64 a1_1, .int .i64 a1_2, .int .i64 a1_3, .slice A1_4 l1_4.length c1_4, .int .u32 a1_5, .int .i64 a1_6, .int .i64 a1_7, .slice A1_8 l1_8.length c1_8, .slice A1_9 l1_9.length c1_9, .int .i64 a1_10]) (t := 48) ?hr ?_; (case hd => rfl); (case hg => rfl); (case hr => first | (go_simp; done) | (go_simp; rfl) | (go_simp; simp [IntKind.wrap_u8, IntKind.wrap_u32]; done)); intro gb151 hg w8 hbox hb; have n0_ := Aside0.mk (blk_below (g := gb150) (o := .cells #[.int .u32 a0_0, .int .i64 a0_1, .int .i64 a0_2, .int .i64 a0_3, .slice A0_4 l0_4.length c0_4, .int .u32 a0_5, .int .i64 a0_6, .int .i64 a0_7, .slice A0_8 l0_8.length c0_8, .slice A0_9 l0_9.length c0_9, .int .i64 a0_10] 48 (0, 0)) (by (with_reducible repeat (first | refine blk_drewN ?_ _ | refine blk_drew ?_ | refine blk_alloc ?_ _)); exact BK150.out) hb); have n1_ := Aside0.mk (below_step (by repeat (first | (with_reducible first | exact HB.out | apply below_alloc | apply pw_below_drewN | apply below_drew1 | refine below_set ?_ GE150.out) | exact HB.out)) hb); have n2_ := Aside0.mk (hbox); have n3_ := Aside0.mk ((by rw [hg]; exact (below_size (by repeat (first | (with_reducible first | exact HB.out | apply below_alloc | apply pw_below_drewN | apply below_drew1 | refine below_set ?_ GE150.out) | exact HB.out))) : w.heap.size ≤ gb151)); have n4_ := Aside0.mk ((by rw [hg]; exact (below_size (by repeat (first | (with_reducible first | exact HB.out | apply below_alloc | apply pw_below_drewN | apply below_drew1 | refine below_set ?_ GE150.out) | exact HB.out))) : w.heap.size ≤ gb151)); have n5_ := Aside0.mk ((by rw [hg]; exact Nat.ne_of_lt (blk_lt (g := gb150) (o := .cells #[.int .u32 a0_0, .int .i64 a0_1, .int .i64 a0_2, .int .i64 a0_3, .slice A0_4 l0_4.length c0_4, .int .u32 a0_5, .int .i64 a0_6, .int .i64 a0_7, .slice A0_8 l0_8.length c0_8, .slice A0_9 l0_9.length c0_9, .int .i64 a0_10] 48 (0, 0)) (by (with_reducible repeat (first | refine blk_drewN ?_ _ | refine blk_drew ?_ | refine blk_alloc ?_ _)); exact BK150.out)) : gb150 ≠ gb151)); have n6_ := Aside0.mk ((by rw [hg]; exact Nat.ne_of_gt (blk_lt (g := gb150) (o := .cells #[.int .u32 a0_0, .int .i64 a0_1, .int .i64 a0_2, .int .i64 a0_3, .slice A0_4 l0_4.length c0_4, .int .u32 a0_5, .int .i64 a0_6, .int .i64 a0_7, .slice A0_8 l0_8.length c0_8, .slice A0_9 l0_9.length c0_9, .int .i64 a0_10] 48 (0, 0)) (by (with_reducible repeat (first | refine blk_drewN ?_ _ | refine blk_drew ?_ | refine blk_alloc ?_ _)); exact BK150.out)) : gb151 ≠ gb150)); clear BK150; clear HB; have BK150 := n0_; have HB := n1_; have BK151 := n2_; have GW151 := n3_; have GE151 := n4_; have NB150_151 := n5_; have NB151_150 := n6_; clear n0_ n1_ n2_ n3_ n4_ n5_ n6_; clear hb hbox hg; have hnb9 := NB150_151.out; have hnc9 := NB151_150.out; have hcz10_0 : w8.cell? ⟨gb150, 0, none⟩ = some (.int .u32 a0_0) := (blk_cell BK150.out 0).trans rfl; have hcz10_1 : w8.cell? ⟨gb150, 1, none⟩ = some (.int .i64 a0_1) := (blk_cell BK150.out 1).trans rfl; have hcz10_2 : w8.cell? ⟨gb150, 2, none⟩ = some (.int .i64 a0_2) := (blk_cell BK150.out 2).trans rfl; have hcz10_3 : w8.cell? ⟨gb150, 3, none⟩ = some (.int .i64 a0_3) := (blk_cell BK150.out 3).trans rfl; have hcz10_4 : w8.cell? ⟨gb150, 4, none⟩ = some (.slice A0_4 l0_4.length c0_4) := (blk_cell BK150.out 4).trans rfl; have hcz10_5 : w8.cell? ⟨gb150, 5, none⟩ = some (.int .u32 a0_5) := (blk_cell BK150.out 5).trans rfl; have hcz10_6 : w8.cell? ⟨gb150, 6, none⟩ = some (.int .i64 a0_6) := (blk_cell BK150.out 6).trans rfl; have hcz10_7 : w8.cell? ⟨gb150, 7, none⟩ = some (.int .i64 a0_7) := (blk_cell BK150.out 7).trans rfl; have hcz10_8 : w8.cell? ⟨gb150, 8, none⟩ = some (.slice A0_8 l0_8.length c0_8) := (blk_cell BK150.out 8).trans rfl; have hcz10_9 : w8.cell? ⟨gb150, 9, none⟩ = some (.slice A0_9 l0_9.length c0_9) := (blk_cell BK150.out 9).trans rfl; have hcz10_10 : w8.cell? ⟨gb150, 10, none⟩ = some (.int .i64 a0_10) := (blk_cell BK150.out 10).trans rfl; have hfz10_0 := blk_frozen BK150.out 0; have hfz10_1 := blk_frozen BK150.out 1; have hfz10_2 := blk_frozen BK150.out 2; have hfz10_3 := blk_frozen BK150.out 3; have hfz10_4 := blk_frozen BK150.out 4; have hfz10_5 := blk_frozen BK150.out 5; have hfz10_6 := blk_frozen BK150.out 6; have hfz10_7 := blk_frozen BK150.out 7; have hfz10_8 := blk_frozen BK150.out 8; have hfz10_9 := blk_frozen BK150.out 9; have hfz10_10 := blk_frozen BK150.out 10; have hcz11_0 : w8.cell? ⟨gb151, 0, none⟩ = some (.int .u32 a1_0) := (blk_cell BK151.out 0).trans rfl; have hcz11_1 : w8.cell? ⟨gb151, 1, none⟩ = some (.int .i64 a1_1) := (blk_cell BK151.out 1).trans rfl; have hcz11_2 : w8.cell? ⟨gb151, 2, none⟩ = some (.int .i64 a1_2) := (blk_cell BK151.out 2).trans rfl; have hcz11_3 : w8.cell? ⟨gb151, 3, none⟩ = some (.int .i64 a1_3) := (blk_cell BK151.out 3).trans rfl; have hcz11_4 : w8.cell? ⟨gb151, 4, none⟩ = some (.slice A1_4 l1_4.length c1_4) := (blk_cell BK151.out 4).trans rfl; have hcz11_5 : w8.cell? ⟨gb151, 5, none⟩ = some (.int .u32 a1_5) := (blk_cell BK151.out 5).trans rfl; have hcz11_6 : w8.cell? ⟨gb151, 6, none⟩ = some (.int .i64 a1_6) := (blk_cell BK151.out 6).trans rfl; have hcz11_7 : w8.cell? ⟨gb151, 7, none⟩ = some (.int .i64 a1_7) := (blk_cell BK151.out 7).trans rfl; have hcz11_8 : w8.cell? ⟨gb151, 8, none⟩ = some (.slice A1_8 l1_8.length c1_8) := (blk_cell BK151.out 8).trans rfl; have hcz11_9 : w8.cell? ⟨gb151, 9, none⟩ = some (.slice A1_9 l1_9.length c1_9) := (blk_cell BK151.out 9).trans rfl; have hcz11_10 : w8.cell? ⟨gb151, 10, none⟩ = some (.int .i64 a1_10) := (blk_cell BK151.out 10).trans rfl; have hfz11_0 := blk_frozen BK151.out 0; have hfz11_1 := blk_frozen BK151.out 1; have hfz11_2 := blk_frozen BK151.out 2; have hfz11_3 := blk_frozen BK151.out 3; have hfz11_4 := blk_frozen BK151.out 4; have hfz11_5 := blk_frozen BK151.out 5; have hfz11_6 := blk_frozen BK151.out 6; have hfz11_7 := blk_frozen BK151.out 7; have hfz11_8 := blk_frozen BK151.out 8; have hfz11_9 := blk_frozen BK151.out 9; have hfz11_10 := blk_frozen BK151.out 10) | (go_at_call 51; (with_reducible refine (interregnumref05_SameAttrs.calls k a0_3 _ _ l0_4 a0_5 a0_6 a0_7 _ _ l0_8 _ _ l0_9 a1_3 _ _ l1_4 a1_5 a1_6 a1_7 _ _ l1_8 _ _ l1_9 t152 _ ?side1 ?side2 ?side3 ?side4 ?side5 ?side6 ?side7 ?side8 ?side9 ?side10 ?side11 ?side12 A6.out).mono ?_); (case side1 => repeat (first | exact (Kd.C_below HR0_4.out HB.out) | (with_reducible refine Kd.C_alloc ?_ _) | (with_reducible refine Kd.C_drewN ?_ _) | (with_reducible refine Kd.C_drew ?_))); (case side2 => exact HC0_4.out); (case side3 => repeat (first | exact (Kd.C_below HR0_8.out HB.out) | (with_reducible refine Kd.C_alloc ?_ _) | (with_reducible refine Kd.C_drewN ?_ _) | (with_reducible refine Kd.C_drew ?_))); (case side4 => exact HC0_8.out); (case side5 => repeat (first | exact (Kd.C_below HR0_9.out HB.out) | (with_reducible refine Kd.C_alloc ?_ _) | (with_reducible refine Kd.C_drewN ?_ _) | (with_reducible refine Kd.C_drew ?_))); (case side6 => exact HC0_9.out); (case side7 => repeat (first | exact (Kd.C_below HR1_4.out HB.out) | (with_reducible refine Kd.C_alloc ?_ _) | (with_reducible refine Kd.C_drewN ?_ _) | (with_reducible refine Kd.C_drew ?_))); (case side8 => exact HC1_4.out); (case side9 => repeat (first | exact (Kd.C_below HR1_8.out HB.out) | (with_reducible refine Kd.C_alloc ?_ _) | (with_reducible refine Kd.C_drewN ?_ _) | (with_reducible refine Kd.C_drew ?_))); (case side10 => exact HC1_8.out); (case side11 => repeat (first | exact (Kd.C_below HR1_9.out HB.out) | (with_reducible refine Kd.C_alloc ?_ _) | (with_reducible refine Kd.C_drewN ?_ _) | (with_reducible refine Kd.C_drew ?_))); (case side12 => exact HC1_9.out); rintro e w12 ⟨rfl, hb⟩; have n0_ := Aside0.mk (blk_below (g := gb150) (o := .cells #[.int .u32 a0_0, .int .i64 a0_1, .int .i64 a0_2, .int .i64 a0_3, .slice A0_4 l0_4.length c0_4, .int .u32 a0_5, .int .i64 a0_6, .int .i64 a0_7, .slice A0_8 l0_8.length c0_8, .slice A0_9 l0_9.length c0_9, .int .i64 a0_10] 48 (0, 0)) (by (with_reducible repeat (first | refine blk_drewN ?_ _ | refine blk_drew ?_ | refine blk_alloc ?_ _)); exact BK150.out) hb); have n1_ := Aside0.mk (blk_below (g := gb151) (o := .cells #[.int .u32 a1_0, .int .i64 a1_1, .int .i64 a1_2, .int .i64 a1_3, .slice A1_4 l1_4.length c1_4, .int .u32 a1_5, .int .i64 a1_6, .int .i64 a1_7, .slice A1_8 l1_8.length c1_8, .slice A1_9 l1_9.length c1_9, .int .i64 a1_10] 48 (0, 0)) (by (with_reducible repeat (first | refine blk_drewN ?_ _ | refine blk_drew ?_ | refine blk_alloc ?_ _)); exact BK151.out) hb); have n2_ := Aside0.mk (below_step (by repeat (first | (with_reducible first | exact HB.out | apply below_alloc | apply pw_below_drewN | apply below_drew1 | refine below_set ?_ GE150.out | refine below_set ?_ GE151.out) | exact HB.out)) hb); clear BK150; clear BK151; clear HB; have BK150 := n0_; have BK151 := n1_; have HB := n2_; clear n0_ n1_ n2_; (try clear hb); (try clear hb2); (try clear hk); (try clear hi)))
        go_ret
        exact ⟨by first | rfl | (simp [errW_none, errW_some] <;> rfl) | (simp [*, errW_none, errW_some] <;> rfl), by repeat (first | (with_reducible first | exact HB.out | apply below_alloc | apply pw_below_drewN | apply below_drew1 | refine below_set ?_ GE150.out | refine below_set ?_ GE151.out) | exact HB.out)⟩
      · rw [if_neg c5] at H
        have c5b0 : (a0_10 == a1_10) = false := beq_eq_false_iff_ne.mpr c5
        have c5b1 : (a0_10 != a1_10) = true := bne_iff_ne.mpr c5
        obtain rfl := Option.some.inj H
        go_enter Try.func32, Try.ntmps32
        go_wp2_with (first | ((with_reducible refine gate_dst (N := 2) rfl ?_); refine box_event ?hg (N := 2) ?hd (cs := #[.int .u32 a0_0, .int .i64 a0_1, .int .i64 a0_2, .int .i64 a0_3, .slice A0_4 l0_4.length c0_4, .int .u32 a0_5, .int .i64 a0_6, .int .i64 a0_7, .slice A0_8 l0_8.length c0_8, .slice A0_9 l0_9.length c0_9, .int .i64 a0_10]) (t := 48) ?hr ?_; (case hd => rfl); (case hg => rfl); (case hr => first | (go_simp; done) | (go_simp; rfl) | (go_simp; simp [IntKind.wrap_u8, IntKind.wrap_u32]; done)); intro gb150 hg w13 hbox hb; have n0_ := Aside0.mk (below_step (by repeat (first | (with_reducible first | exact HB.out | apply below_alloc | apply pw_below_drewN | apply below_drew1) | exact HB.out)) hb); have n1_ := Aside0.mk (hbox); have n2_ := Aside0.mk ((by rw [hg]; exact (below_size (by repeat (first | (with_reducible first | exact HB.out | apply below_alloc | apply pw_below_drewN | apply below_drew1) | exact HB.out))) : w.heap.size ≤ gb150)); have n3_ := Aside0.mk ((by rw [hg]; exact (below_size (by repeat (first | (with_reducible first | exact HB.out | apply below_alloc | apply pw_below_drewN | apply below_drew1) | exact HB.out))) : w.heap.size ≤ gb150)); clear HB; have HB := n0_; have BK150 := n1_; have GW150 := n2_; have GE150 := n3_; clear n0_ n1_ n2_ n3_; clear hb hbox hg) | ((with_reducible refine gate_dst (N := 3) rfl ?_); refine box_event ?hg (N := 3) ?hd (cs := #[.int .u32 a1_0, .int .i64 a1_1, .int .i64 a1_2, .int .i64 a1_3, .slice A1_4 l1_4.length c1_4, .int .u32 a1_5, .int .i64 a1_6, .int .i64 a1_7, .slice A1_8 l1_8.length c1_8, .slice A1_9 l1_9.length c1_9, .int .i64 a1_10]) (t := 48) ?hr ?_; (case hd => rfl); (case hg => rfl); (case hr => first | (go_simp; done) | (go_simp; rfl) | (go_simp; simp [IntKind.wrap_u8, IntKind.wrap_u32]; done)); intro gb151 hg w14 hbox hb; have n0_ := Aside0.mk (blk_below (g := gb150) (o := .cells #[.int .u32 a0_0, .int .i64 a0_1, .int .i64 a0_2, .int .i64 a0_3, .slice A0_4 l0_4.length c0_4, .int .u32 a0_5, .int .i64 a0_6, .int .i64 a0_7, .slice A0_8 l0_8.length c0_8, .slice A0_9 l0_9.length c0_9, .int .i64 a0_10] 48 (0, 0)) (by (with_reducible repeat (first | refine blk_drewN ?_ _ | refine blk_drew ?_ | refine blk_alloc ?_ _)); exact BK150.out) hb); have n1_ := Aside0.mk (below_step (by repeat (first | (with_reducible first | exact HB.out | apply below_alloc | apply pw_below_drewN | apply below_drew1 | refine below_set ?_ GE150.out) | exact HB.out)) hb); have n2_ := Aside0.mk (hbox); have n3_ := Aside0.mk ((by rw [hg]; exact (below_size (by repeat (first | (with_reducible first | exact HB.out | apply below_alloc | apply pw_below_drewN | apply below_drew1 | refine below_set ?_ GE150.out) | exact HB.out))) : w.heap.size ≤ gb151)); have n4_ := Aside0.mk ((by rw [hg]; exact (below_size (by repeat (first | (with_reducible first | exact HB.out | apply below_alloc | apply pw_below_drewN | apply below_drew1 | refine below_set ?_ GE150.out) | exact HB.out))) : w.heap.size ≤ gb151)); have n5_ := Aside0.mk ((by rw [hg]; exact Nat.ne_of_lt (blk_lt (g := gb150) (o := .cells #[.int .u32 a0_0, .int .i64 a0_1, .int .i64 a0_2, .int .i64 a0_3, .slice A0_4 l0_4.length c0_4, .int .u32 a0_5, .int .i64 a0_6, .int .i64 a0_7, .slice A0_8 l0_8.length c0_8, .slice A0_9 l0_9.length c0_9, .int .i64 a0_10] 48 (0, 0)) (by (with_reducible repeat (first | refine blk_drewN ?_ _ | refine blk_drew ?_ | refine blk_alloc ?_ _)); exact BK150.out)) : gb150 ≠ gb151)); have n6_ := Aside0.mk ((by rw [hg]; exact Nat.ne_of_gt (blk_lt (g := gb150) (o := .cells #[.int .u32 a0_0, .int .i64 a0_1, .int .i64 a0_2, .int .i64 a0_3, .slice A0_4 l0_4.length c0_4, .int .u32 a0_5, .int .i64 a0_6, .int .i64 a0_7, .slice A0_8 l0_8.length c0_8, .slice A0_9 l0_9.length c0_9, .int .i64 a0_10] 48 (0, 0)) (by (with_reducible repeat (first | refine blk_drewN ?_ _ | refine blk_drew ?_ | refine blk_alloc ?_ _)); exact BK150.out)) : gb151 ≠ gb150)); clear BK150; clear HB; have BK150 := n0_; have HB := n1_; have BK151 := n2_; have GW151 := n3_; have GE151 := n4_; have NB150_151 := n5_; have NB151_150 := n6_; clear n0_ n1_ n2_ n3_ n4_ n5_ n6_; clear hb hbox hg; have hnb15 := NB150_151.out; have hnc15 := NB151_150.out; have hcz16_0 : w14.cell? ⟨gb150, 0, none⟩ = some (.int .u32 a0_0) := (blk_cell BK150.out 0).trans rfl; have hcz16_1 : w14.cell? ⟨gb150, 1, none⟩ = some (.int .i64 a0_1) := (blk_cell BK150.out 1).trans rfl; have hcz16_2 : w14.cell? ⟨gb150, 2, none⟩ = some (.int .i64 a0_2) := (blk_cell BK150.out 2).trans rfl; have hcz16_3 : w14.cell? ⟨gb150, 3, none⟩ = some (.int .i64 a0_3) := (blk_cell BK150.out 3).trans rfl; have hcz16_4 : w14.cell? ⟨gb150, 4, none⟩ = some (.slice A0_4 l0_4.length c0_4) := (blk_cell BK150.out 4).trans rfl; have hcz16_5 : w14.cell? ⟨gb150, 5, none⟩ = some (.int .u32 a0_5) := (blk_cell BK150.out 5).trans rfl; have hcz16_6 : w14.cell? ⟨gb150, 6, none⟩ = some (.int .i64 a0_6) := (blk_cell BK150.out 6).trans rfl; have hcz16_7 : w14.cell? ⟨gb150, 7, none⟩ = some (.int .i64 a0_7) := (blk_cell BK150.out 7).trans rfl; have hcz16_8 : w14.cell? ⟨gb150, 8, none⟩ = some (.slice A0_8 l0_8.length c0_8) := (blk_cell BK150.out 8).trans rfl; have hcz16_9 : w14.cell? ⟨gb150, 9, none⟩ = some (.slice A0_9 l0_9.length c0_9) := (blk_cell BK150.out 9).trans rfl; have hcz16_10 : w14.cell? ⟨gb150, 10, none⟩ = some (.int .i64 a0_10) := (blk_cell BK150.out 10).trans rfl; have hfz16_0 := blk_frozen BK150.out 0; have hfz16_1 := blk_frozen BK150.out 1; have hfz16_2 := blk_frozen BK150.out 2; have hfz16_3 := blk_frozen BK150.out 3; have hfz16_4 := blk_frozen BK150.out 4; have hfz16_5 := blk_frozen BK150.out 5; have hfz16_6 := blk_frozen BK150.out 6; have hfz16_7 := blk_frozen BK150.out 7; have hfz16_8 := blk_frozen BK150.out 8; have hfz16_9 := blk_frozen BK150.out 9; have hfz16_10 := blk_frozen BK150.out 10; have hcz17_0 : w14.cell? ⟨gb151, 0, none⟩ = some (.int .u32 a1_0) := (blk_cell BK151.out 0).trans rfl; have hcz17_1 : w14.cell? ⟨gb151, 1, none⟩ = some (.int .i64 a1_1) := (blk_cell BK151.out 1).trans rfl; have hcz17_2 : w14.cell? ⟨gb151, 2, none⟩ = some (.int .i64 a1_2) := (blk_cell BK151.out 2).trans rfl; have hcz17_3 : w14.cell? ⟨gb151, 3, none⟩ = some (.int .i64 a1_3) := (blk_cell BK151.out 3).trans rfl; have hcz17_4 : w14.cell? ⟨gb151, 4, none⟩ = some (.slice A1_4 l1_4.length c1_4) := (blk_cell BK151.out 4).trans rfl; have hcz17_5 : w14.cell? ⟨gb151, 5, none⟩ = some (.int .u32 a1_5) := (blk_cell BK151.out 5).trans rfl; have hcz17_6 : w14.cell? ⟨gb151, 6, none⟩ = some (.int .i64 a1_6) := (blk_cell BK151.out 6).trans rfl; have hcz17_7 : w14.cell? ⟨gb151, 7, none⟩ = some (.int .i64 a1_7) := (blk_cell BK151.out 7).trans rfl; have hcz17_8 : w14.cell? ⟨gb151, 8, none⟩ = some (.slice A1_8 l1_8.length c1_8) := (blk_cell BK151.out 8).trans rfl; have hcz17_9 : w14.cell? ⟨gb151, 9, none⟩ = some (.slice A1_9 l1_9.length c1_9) := (blk_cell BK151.out 9).trans rfl; have hcz17_10 : w14.cell? ⟨gb151, 10, none⟩ = some (.int .i64 a1_10) := (blk_cell BK151.out 10).trans rfl; have hfz17_0 := blk_frozen BK151.out 0; have hfz17_1 := blk_frozen BK151.out 1; have hfz17_2 := blk_frozen BK151.out 2; have hfz17_3 := blk_frozen BK151.out 3; have hfz17_4 := blk_frozen BK151.out 4; have hfz17_5 := blk_frozen BK151.out 5; have hfz17_6 := blk_frozen BK151.out 6; have hfz17_7 := blk_frozen BK151.out 7; have hfz17_8 := blk_frozen BK151.out 8; have hfz17_9 := blk_frozen BK151.out 9; have hfz17_10 := blk_frozen BK151.out 10))
        go_ret
        exact ⟨by first | rfl | (simp [errW_none, errW_some] <;> rfl) | (simp [*, errW_none, errW_some] <;> rfl), by repeat (first | (with_reducible first | exact HB.out | apply below_alloc | apply pw_below_drewN | apply below_drew1 | refine below_set ?_ GE150.out | refine below_set ?_ GE151.out) | exact HB.out)⟩
    · rw [if_neg c4] at H
      have c4b0 : (a0_2 == a1_2) = false := beq_eq_false_iff_ne.mpr c4
      have c4b1 : (a0_2 != a1_2) = true := bne_iff_ne.mpr c4
      obtain rfl := Option.some.inj H
      go_enter Try.func32, Try.ntmps32
      go_wp2_with (first | ((with_reducible refine gate_dst (N := 2) rfl ?_); refine box_event ?hg (N := 2) ?hd (cs := #[.int .u32 a0_0, .int .i64 a0_1, .int .i64 a0_2, .int .i64 a0_3, .slice A0_4 l0_4.length c0_4, .int .u32 a0_5, .int .i64 a0_6, .int .i64 a0_7, .slice A0_8 l0_8.length c0_8, .slice A0_9 l0_9.length c0_9, .int .i64 a0_10]) (t := 48) ?hr ?_; (case hd => rfl); (case hg => rfl); (case hr => first | (go_simp; done) | (go_simp; rfl) | (go_simp; simp [IntKind.wrap_u8, IntKind.wrap_u32]; done)); intro gb150 hg w18 hbox hb; have n0_ := Aside0.mk (below_step (by repeat (first | (with_reducible first | exact HB.out | apply below_alloc | apply pw_below_drewN | apply below_drew1) | exact HB.out)) hb); have n1_ := Aside0.mk (hbox); have n2_ := Aside0.mk ((by rw [hg]; exact (below_size (by repeat (first | (with_reducible first | exact HB.out | apply below_alloc | apply pw_below_drewN | apply below_drew1) | exact HB.out))) : w.heap.size ≤ gb150)); have n3_ := Aside0.mk ((by rw [hg]; exact (below_size (by repeat (first | (with_reducible first | exact HB.out | apply below_alloc | apply pw_below_drewN | apply below_drew1) | exact HB.out))) : w.heap.size ≤ gb150)); clear HB; have HB := n0_; have BK150 := n1_; have GW150 := n2_; have GE150 := n3_; clear n0_ n1_ n2_ n3_; clear hb hbox hg) | ((with_reducible refine gate_dst (N := 3) rfl ?_); refine box_event ?hg (N := 3) ?hd (cs := #[.int .u32 a1_0, .int .i64 a1_1, .int .i64 a1_2, .int .i64 a1_3, .slice A1_4 l1_4.length c1_4, .int .u32 a1_5, .int .i64 a1_6, .int .i64 a1_7, .slice A1_8 l1_8.length c1_8, .slice A1_9 l1_9.length c1_9, .int .i64 a1_10]) (t := 48) ?hr ?_; (case hd => rfl); (case hg => rfl); (case hr => first | (go_simp; done) | (go_simp; rfl) | (go_simp; simp [IntKind.wrap_u8, IntKind.wrap_u32]; done)); intro gb151 hg w19 hbox hb; have n0_ := Aside0.mk (blk_below (g := gb150) (o := .cells #[.int .u32 a0_0, .int .i64 a0_1, .int .i64 a0_2, .int .i64 a0_3, .slice A0_4 l0_4.length c0_4, .int .u32 a0_5, .int .i64 a0_6, .int .i64 a0_7, .slice A0_8 l0_8.length c0_8, .slice A0_9 l0_9.length c0_9, .int .i64 a0_10] 48 (0, 0)) (by (with_reducible repeat (first | refine blk_drewN ?_ _ | refine blk_drew ?_ | refine blk_alloc ?_ _)); exact BK150.out) hb); have n1_ := Aside0.mk (below_step (by repeat (first | (with_reducible first | exact HB.out | apply below_alloc | apply pw_below_drewN | apply below_drew1 | refine below_set ?_ GE150.out) | exact HB.out)) hb); have n2_ := Aside0.mk (hbox); have n3_ := Aside0.mk ((by rw [hg]; exact (below_size (by repeat (first | (with_reducible first | exact HB.out | apply below_alloc | apply pw_below_drewN | apply below_drew1 | refine below_set ?_ GE150.out) | exact HB.out))) : w.heap.size ≤ gb151)); have n4_ := Aside0.mk ((by rw [hg]; exact (below_size (by repeat (first | (with_reducible first | exact HB.out | apply below_alloc | apply pw_below_drewN | apply below_drew1 | refine below_set ?_ GE150.out) | exact HB.out))) : w.heap.size ≤ gb151)); have n5_ := Aside0.mk ((by rw [hg]; exact Nat.ne_of_lt (blk_lt (g := gb150) (o := .cells #[.int .u32 a0_0, .int .i64 a0_1, .int .i64 a0_2, .int .i64 a0_3, .slice A0_4 l0_4.length c0_4, .int .u32 a0_5, .int .i64 a0_6, .int .i64 a0_7, .slice A0_8 l0_8.length c0_8, .slice A0_9 l0_9.length c0_9, .int .i64 a0_10] 48 (0, 0)) (by (with_reducible repeat (first | refine blk_drewN ?_ _ | refine blk_drew ?_ | refine blk_alloc ?_ _)); exact BK150.out)) : gb150 ≠ gb151)); have n6_ := Aside0.mk ((by rw [hg]; exact Nat.ne_of_gt (blk_lt (g := gb150) (o := .cells #[.int .u32 a0_0, .int .i64 a0_1, .int .i64 a0_2, .int .i64 a0_3, .slice A0_4 l0_4.length c0_4, .int .u32 a0_5, .int .i64 a0_6, .int .i64 a0_7, .slice A0_8 l0_8.length c0_8, .slice A0_9 l0_9.length c0_9, .int .i64 a0_10] 48 (0, 0)) (by (with_reducible repeat (first | refine blk_drewN ?_ _ | refine blk_drew ?_ | refine blk_alloc ?_ _)); exact BK150.out)) : gb151 ≠ gb150)); clear BK150; clear HB; have BK150 := n0_; have HB := n1_; have BK151 := n2_; have GW151 := n3_; have GE151 := n4_; have NB150_151 := n5_; have NB151_150 := n6_; clear n0_ n1_ n2_ n3_ n4_ n5_ n6_; clear hb hbox hg; have hnb20 := NB150_151.out; have hnc20 := NB151_150.out; have hcz21_0 : w19.cell? ⟨gb150, 0, none⟩ = some (.int .u32 a0_0) := (blk_cell BK150.out 0).trans rfl; have hcz21_1 : w19.cell? ⟨gb150, 1, none⟩ = some (.int .i64 a0_1) := (blk_cell BK150.out 1).trans rfl; have hcz21_2 : w19.cell? ⟨gb150, 2, none⟩ = some (.int .i64 a0_2) := (blk_cell BK150.out 2).trans rfl; have hcz21_3 : w19.cell? ⟨gb150, 3, none⟩ = some (.int .i64 a0_3) := (blk_cell BK150.out 3).trans rfl; have hcz21_4 : w19.cell? ⟨gb150, 4, none⟩ = some (.slice A0_4 l0_4.length c0_4) := (blk_cell BK150.out 4).trans rfl; have hcz21_5 : w19.cell? ⟨gb150, 5, none⟩ = some (.int .u32 a0_5) := (blk_cell BK150.out 5).trans rfl; have hcz21_6 : w19.cell? ⟨gb150, 6, none⟩ = some (.int .i64 a0_6) := (blk_cell BK150.out 6).trans rfl; have hcz21_7 : w19.cell? ⟨gb150, 7, none⟩ = some (.int .i64 a0_7) := (blk_cell BK150.out 7).trans rfl; have hcz21_8 : w19.cell? ⟨gb150, 8, none⟩ = some (.slice A0_8 l0_8.length c0_8) := (blk_cell BK150.out 8).trans rfl; have hcz21_9 : w19.cell? ⟨gb150, 9, none⟩ = some (.slice A0_9 l0_9.length c0_9) := (blk_cell BK150.out 9).trans rfl; have hcz21_10 : w19.cell? ⟨gb150, 10, none⟩ = some (.int .i64 a0_10) := (blk_cell BK150.out 10).trans rfl; have hfz21_0 := blk_frozen BK150.out 0; have hfz21_1 := blk_frozen BK150.out 1; have hfz21_2 := blk_frozen BK150.out 2; have hfz21_3 := blk_frozen BK150.out 3; have hfz21_4 := blk_frozen BK150.out 4; have hfz21_5 := blk_frozen BK150.out 5; have hfz21_6 := blk_frozen BK150.out 6; have hfz21_7 := blk_frozen BK150.out 7; have hfz21_8 := blk_frozen BK150.out 8; have hfz21_9 := blk_frozen BK150.out 9; have hfz21_10 := blk_frozen BK150.out 10; have hcz22_0 : w19.cell? ⟨gb151, 0, none⟩ = some (.int .u32 a1_0) := (blk_cell BK151.out 0).trans rfl; have hcz22_1 : w19.cell? ⟨gb151, 1, none⟩ = some (.int .i64 a1_1) := (blk_cell BK151.out 1).trans rfl; have hcz22_2 : w19.cell? ⟨gb151, 2, none⟩ = some (.int .i64 a1_2) := (blk_cell BK151.out 2).trans rfl; have hcz22_3 : w19.cell? ⟨gb151, 3, none⟩ = some (.int .i64 a1_3) := (blk_cell BK151.out 3).trans rfl; have hcz22_4 : w19.cell? ⟨gb151, 4, none⟩ = some (.slice A1_4 l1_4.length c1_4) := (blk_cell BK151.out 4).trans rfl; have hcz22_5 : w19.cell? ⟨gb151, 5, none⟩ = some (.int .u32 a1_5) := (blk_cell BK151.out 5).trans rfl; have hcz22_6 : w19.cell? ⟨gb151, 6, none⟩ = some (.int .i64 a1_6) := (blk_cell BK151.out 6).trans rfl; have hcz22_7 : w19.cell? ⟨gb151, 7, none⟩ = some (.int .i64 a1_7) := (blk_cell BK151.out 7).trans rfl; have hcz22_8 : w19.cell? ⟨gb151, 8, none⟩ = some (.slice A1_8 l1_8.length c1_8) := (blk_cell BK151.out 8).trans rfl; have hcz22_9 : w19.cell? ⟨gb151, 9, none⟩ = some (.slice A1_9 l1_9.length c1_9) := (blk_cell BK151.out 9).trans rfl; have hcz22_10 : w19.cell? ⟨gb151, 10, none⟩ = some (.int .i64 a1_10) := (blk_cell BK151.out 10).trans rfl; have hfz22_0 := blk_frozen BK151.out 0; have hfz22_1 := blk_frozen BK151.out 1; have hfz22_2 := blk_frozen BK151.out 2; have hfz22_3 := blk_frozen BK151.out 3; have hfz22_4 := blk_frozen BK151.out 4; have hfz22_5 := blk_frozen BK151.out 5; have hfz22_6 := blk_frozen BK151.out 6; have hfz22_7 := blk_frozen BK151.out 7; have hfz22_8 := blk_frozen BK151.out 8; have hfz22_9 := blk_frozen BK151.out 9; have hfz22_10 := blk_frozen BK151.out 10))
      go_ret
      exact ⟨by first | rfl | (simp [errW_none, errW_some] <;> rfl) | (simp [*, errW_none, errW_some] <;> rfl), by repeat (first | (with_reducible first | exact HB.out | apply below_alloc | apply pw_below_drewN | apply below_drew1 | refine below_set ?_ GE150.out | refine below_set ?_ GE151.out) | exact HB.out)⟩
  · rw [if_neg c3] at H
    have c3b0 : (a0_0 == a1_0 && (a0_1 == a1_1)) = false := by simpa using c3
    (try (have c3b1 : decide (a0_0 = a1_0 && (a0_1 == a1_1)) = false := by simpa using c3))
    (try (have c3b2 : (a0_0 == a1_0 && (a0_1 == a1_1)) = false := by simpa using c3))
    (try (have c3b3 : ¬ (a0_0 = a1_0 && (a0_1 == a1_1)) := by simpa using c3))
    clear c3
    obtain rfl := Option.some.inj H
    go_enter Try.func32, Try.ntmps32
    go_wp2_with (first | ((with_reducible refine gate_dst (N := 2) rfl ?_); refine box_event ?hg (N := 2) ?hd (cs := #[.int .u32 a0_0, .int .i64 a0_1, .int .i64 a0_2, .int .i64 a0_3, .slice A0_4 l0_4.length c0_4, .int .u32 a0_5, .int .i64 a0_6, .int .i64 a0_7, .slice A0_8 l0_8.length c0_8, .slice A0_9 l0_9.length c0_9, .int .i64 a0_10]) (t := 48) ?hr ?_; (case hd => rfl); (case hg => rfl); (case hr => first | (go_simp; done) | (go_simp; rfl) | (go_simp; simp [IntKind.wrap_u8, IntKind.wrap_u32]; done)); intro gb150 hg w23 hbox hb; have n0_ := Aside0.mk (below_step (by repeat (first | (with_reducible first | exact HB.out | apply below_alloc | apply pw_below_drewN | apply below_drew1) | exact HB.out)) hb); have n1_ := Aside0.mk (hbox); have n2_ := Aside0.mk ((by rw [hg]; exact (below_size (by repeat (first | (with_reducible first | exact HB.out | apply below_alloc | apply pw_below_drewN | apply below_drew1) | exact HB.out))) : w.heap.size ≤ gb150)); have n3_ := Aside0.mk ((by rw [hg]; exact (below_size (by repeat (first | (with_reducible first | exact HB.out | apply below_alloc | apply pw_below_drewN | apply below_drew1) | exact HB.out))) : w.heap.size ≤ gb150)); clear HB; have HB := n0_; have BK150 := n1_; have GW150 := n2_; have GE150 := n3_; clear n0_ n1_ n2_ n3_; clear hb hbox hg) | ((with_reducible refine gate_dst (N := 3) rfl ?_); refine box_event ?hg (N := 3) ?hd (cs := #[.int .u32 a1_0, .int .i64 a1_1, .int .i64 a1_2, .int .i64 a1_3, .slice A1_4 l1_4.length c1_4, .int .u32 a1_5, .int .i64 a1_6, .int .i64 a1_7, .slice A1_8 l1_8.length c1_8, .slice A1_9 l1_9.length c1_9, .int .i64 a1_10]) (t := 48) ?hr ?_; (case hd => rfl); (case hg => rfl); (case hr => first | (go_simp; done) | (go_simp; rfl) | (go_simp; simp [IntKind.wrap_u8, IntKind.wrap_u32]; done)); intro gb151 hg w24 hbox hb; have n0_ := Aside0.mk (blk_below (g := gb150) (o := .cells #[.int .u32 a0_0, .int .i64 a0_1, .int .i64 a0_2, .int .i64 a0_3, .slice A0_4 l0_4.length c0_4, .int .u32 a0_5, .int .i64 a0_6, .int .i64 a0_7, .slice A0_8 l0_8.length c0_8, .slice A0_9 l0_9.length c0_9, .int .i64 a0_10] 48 (0, 0)) (by (with_reducible repeat (first | refine blk_drewN ?_ _ | refine blk_drew ?_ | refine blk_alloc ?_ _)); exact BK150.out) hb); have n1_ := Aside0.mk (below_step (by repeat (first | (with_reducible first | exact HB.out | apply below_alloc | apply pw_below_drewN | apply below_drew1 | refine below_set ?_ GE150.out) | exact HB.out)) hb); have n2_ := Aside0.mk (hbox); have n3_ := Aside0.mk ((by rw [hg]; exact (below_size (by repeat (first | (with_reducible first | exact HB.out | apply below_alloc | apply pw_below_drewN | apply below_drew1 | refine below_set ?_ GE150.out) | exact HB.out))) : w.heap.size ≤ gb151)); have n4_ := Aside0.mk ((by rw [hg]; exact (below_size (by repeat (first | (with_reducible first | exact HB.out | apply below_alloc | apply pw_below_drewN | apply below_drew1 | refine below_set ?_ GE150.out) | exact HB.out))) : w.heap.size ≤ gb151)); have n5_ := Aside0.mk ((by rw [hg]; exact Nat.ne_of_lt (blk_lt (g := gb150) (o := .cells #[.int .u32 a0_0, .int .i64 a0_1, .int .i64 a0_2, .int .i64 a0_3, .slice A0_4 l0_4.length c0_4, .int .u32 a0_5, .int .i64 a0_6, .int .i64 a0_7, .slice A0_8 l0_8.length c0_8, .slice A0_9 l0_9.length c0_9, .int .i64 a0_10] 48 (0, 0)) (by (with_reducible repeat (first | refine blk_drewN ?_ _ | refine blk_drew ?_ | refine blk_alloc ?_ _)); exact BK150.out)) : gb150 ≠ gb151)); have n6_ := Aside0.mk ((by rw [hg]; exact Nat.ne_of_gt (blk_lt (g := gb150) (o := .cells #[.int .u32 a0_0, .int .i64 a0_1, .int .i64 a0_2, .int .i64 a0_3, .slice A0_4 l0_4.length c0_4, .int .u32 a0_5, .int .i64 a0_6, .int .i64 a0_7, .slice A0_8 l0_8.length c0_8, .slice A0_9 l0_9.length c0_9, .int .i64 a0_10] 48 (0, 0)) (by (with_reducible repeat (first | refine blk_drewN ?_ _ | refine blk_drew ?_ | refine blk_alloc ?_ _)); exact BK150.out)) : gb151 ≠ gb150)); clear BK150; clear HB; have BK150 := n0_; have HB := n1_; have BK151 := n2_; have GW151 := n3_; have GE151 := n4_; have NB150_151 := n5_; have NB151_150 := n6_; clear n0_ n1_ n2_ n3_ n4_ n5_ n6_; clear hb hbox hg; have hnb25 := NB150_151.out; have hnc25 := NB151_150.out; have hcz26_0 : w24.cell? ⟨gb150, 0, none⟩ = some (.int .u32 a0_0) := (blk_cell BK150.out 0).trans rfl; have hcz26_1 : w24.cell? ⟨gb150, 1, none⟩ = some (.int .i64 a0_1) := (blk_cell BK150.out 1).trans rfl; have hcz26_2 : w24.cell? ⟨gb150, 2, none⟩ = some (.int .i64 a0_2) := (blk_cell BK150.out 2).trans rfl; have hcz26_3 : w24.cell? ⟨gb150, 3, none⟩ = some (.int .i64 a0_3) := (blk_cell BK150.out 3).trans rfl; have hcz26_4 : w24.cell? ⟨gb150, 4, none⟩ = some (.slice A0_4 l0_4.length c0_4) := (blk_cell BK150.out 4).trans rfl; have hcz26_5 : w24.cell? ⟨gb150, 5, none⟩ = some (.int .u32 a0_5) := (blk_cell BK150.out 5).trans rfl; have hcz26_6 : w24.cell? ⟨gb150, 6, none⟩ = some (.int .i64 a0_6) := (blk_cell BK150.out 6).trans rfl; have hcz26_7 : w24.cell? ⟨gb150, 7, none⟩ = some (.int .i64 a0_7) := (blk_cell BK150.out 7).trans rfl; have hcz26_8 : w24.cell? ⟨gb150, 8, none⟩ = some (.slice A0_8 l0_8.length c0_8) := (blk_cell BK150.out 8).trans rfl; have hcz26_9 : w24.cell? ⟨gb150, 9, none⟩ = some (.slice A0_9 l0_9.length c0_9) := (blk_cell BK150.out 9).trans rfl; have hcz26_10 : w24.cell? ⟨gb150, 10, none⟩ = some (.int .i64 a0_10) := (blk_cell BK150.out 10).trans rfl; have hfz26_0 := blk_frozen BK150.out 0; have hfz26_1 := blk_frozen BK150.out 1; have hfz26_2 := blk_frozen BK150.out 2; have hfz26_3 := blk_frozen BK150.out 3; have hfz26_4 := blk_frozen BK150.out 4; have hfz26_5 := blk_frozen BK150.out 5; have hfz26_6 := blk_frozen BK150.out 6; have hfz26_7 := blk_frozen BK150.out 7; have hfz26_8 := blk_frozen BK150.out 8; have hfz26_9 := blk_frozen BK150.out 9; have hfz26_10 := blk_frozen BK150.out 10; have hcz27_0 : w24.cell? ⟨gb151, 0, none⟩ = some (.int .u32 a1_0) := (blk_cell BK151.out 0).trans rfl; have hcz27_1 : w24.cell? ⟨gb151, 1, none⟩ = some (.int .i64 a1_1) := (blk_cell BK151.out 1).trans rfl; have hcz27_2 : w24.cell? ⟨gb151, 2, none⟩ = some (.int .i64 a1_2) := (blk_cell BK151.out 2).trans rfl; have hcz27_3 : w24.cell? ⟨gb151, 3, none⟩ = some (.int .i64 a1_3) := (blk_cell BK151.out 3).trans rfl; have hcz27_4 : w24.cell? ⟨gb151, 4, none⟩ = some (.slice A1_4 l1_4.length c1_4) := (blk_cell BK151.out 4).trans rfl; have hcz27_5 : w24.cell? ⟨gb151, 5, none⟩ = some (.int .u32 a1_5) := (blk_cell BK151.out 5).trans rfl; have hcz27_6 : w24.cell? ⟨gb151, 6, none⟩ = some (.int .i64 a1_6) := (blk_cell BK151.out 6).trans rfl; have hcz27_7 : w24.cell? ⟨gb151, 7, none⟩ = some (.int .i64 a1_7) := (blk_cell BK151.out 7).trans rfl; have hcz27_8 : w24.cell? ⟨gb151, 8, none⟩ = some (.slice A1_8 l1_8.length c1_8) := (blk_cell BK151.out 8).trans rfl; have hcz27_9 : w24.cell? ⟨gb151, 9, none⟩ = some (.slice A1_9 l1_9.length c1_9) := (blk_cell BK151.out 9).trans rfl; have hcz27_10 : w24.cell? ⟨gb151, 10, none⟩ = some (.int .i64 a1_10) := (blk_cell BK151.out 10).trans rfl; have hfz27_0 := blk_frozen BK151.out 0; have hfz27_1 := blk_frozen BK151.out 1; have hfz27_2 := blk_frozen BK151.out 2; have hfz27_3 := blk_frozen BK151.out 3; have hfz27_4 := blk_frozen BK151.out 4; have hfz27_5 := blk_frozen BK151.out 5; have hfz27_6 := blk_frozen BK151.out 6; have hfz27_7 := blk_frozen BK151.out 7; have hfz27_8 := blk_frozen BK151.out 8; have hfz27_9 := blk_frozen BK151.out 9; have hfz27_10 := blk_frozen BK151.out 10))
    go_ret
    exact ⟨by first | rfl | (simp [errW_none, errW_some] <;> rfl) | (simp [*, errW_none, errW_some] <;> rfl), by repeat (first | (with_reducible first | exact HB.out | apply below_alloc | apply pw_below_drewN | apply below_drew1 | refine below_set ?_ GE150.out | refine below_set ?_ GE151.out) | exact HB.out)⟩

/-! ### interregnumlaw13_RouteStatic: function 10 -/
def interregnumlaw13_RouteStatic.f (k : Nat) (a0_0 : Int) (a0_1 : Int) (a1 : Int) : Option (Bool) := (interregnumlaw13_answers.f).bind fun t154 => (if t154 = true then ((route_Static.f a0_0 a0_1 a1).bind fun bt155 => ((interregnumref11_SameRoute.f k bt155.1 bt155.2.1 bt155.2.2.1 bt155.2.2.2.1 bt155.2.2.2.2.1 bt155.2.2.2.2.2.1 bt155.2.2.2.2.2.2.1 bt155.2.2.2.2.2.2.2.1 bt155.2.2.2.2.2.2.2.2.1 bt155.2.2.2.2.2.2.2.2.2.1 bt155.2.2.2.2.2.2.2.2.2.2 a0_0 a0_1 (-1) 0 ([] : List (S38)) a1 (-1) (-1) ([] : List Int) ([] : List (S58)) 0).bind fun t172 => (some t172))) else (some false))
theorem interregnumlaw13_RouteStatic.mono : ∀ a0 a1 a2 k, LeO (interregnumlaw13_RouteStatic.f k a0 a1 a2) (interregnumlaw13_RouteStatic.f (k + 1) a0 a1 a2) := by
  intro a0 a1 a2 k
  unfold interregnumlaw13_RouteStatic.f
  repeat' first
      | (with_reducible exact interregnumref11_SameRoute.mono _ _ _ _ _ _ _ _ _ _ _ _ _ _ _ _ _ _ _ _ _ _ _)
      | (with_reducible exact LeO.refl _)
      | (with_reducible exact LeO.none _)
      | (with_reducible refine LeO.ite ?_ ?_)
      | (with_reducible refine LeO.bind ?_ (fun _ => ?_))
      | exact interregnumref11_SameRoute.mono _ _ _ _ _ _ _ _ _ _ _ _ _ _ _ _ _ _ _ _ _ _ _
      | exact LeO.none _
      | refine LeO.ite ?_ ?_
      | refine LeO.bind ?_ (fun _ => ?_)
def interregnumlaw13_RouteStatic.T1 : Bool × List (List Nat × List Nat) := (true, [([], []), ([0, 0], [0]), ([1], [1]), ([1], [1]), ([2, 3, 1, 1], [1, 2, 3]), ([1], [1]), ([1], [1]), ([6, 1], [1, 6]), ([5, 7, 1], [1, 5, 7]), ([4, 8, 4, 1], [1, 4, 8]), ([1, 9], [1, 9]), ([10, 9, 0, 1, 2, 3, 4, 5, 6, 7, 8, 9, 10], [10])])
def interregnumlaw13_RouteStatic.B1 : List Nat := [0, 1, 3, 3, 15, 3, 3, 67, 227, 511, 1023, 2047]
theorem interregnumlaw13_RouteStatic.tab1 : rtab .any (opsOf Try.f10 1) = interregnumlaw13_RouteStatic.T1 := by kernel_rfl
theorem interregnumlaw13_RouteStatic.bits1 : waitsOk interregnumlaw13_RouteStatic.T1.2 interregnumlaw13_RouteStatic.B1 = true := by kernel_rfl
set_option maxHeartbeats 8000000 in
set_option maxRecDepth 100000 in
theorem interregnumlaw13_RouteStatic.calls (k : Nat) (a0_0 : Int) (a0_1 : Int) (a1 : Int) (r : Bool) (w : World) (h : interregnumlaw13_RouteStatic.f k a0_0 a0_1 a1 = some r) :
    Calls Try.prog 10 #[.agg #[.int .u32 a0_0, .int .i64 a0_1], .int .u32 a1] w fun e w' => e = .returned (.bool r) ∧ Below w.heap.size w w' := by
  have hu42 := Try.underlying42
  have hu46 := Try.underlying46
  have hu48 := Try.underlying48
  have HB := Aside0.mk (Below.refl w.heap.size w)
  have H : ((interregnumlaw13_answers.f).bind fun t154 => (if t154 = true then ((route_Static.f a0_0 a0_1 a1).bind fun bt155 => ((interregnumref11_SameRoute.f k bt155.1 bt155.2.1 bt155.2.2.1 bt155.2.2.2.1 bt155.2.2.2.2.1 bt155.2.2.2.2.2.1 bt155.2.2.2.2.2.2.1 bt155.2.2.2.2.2.2.2.1 bt155.2.2.2.2.2.2.2.2.1 bt155.2.2.2.2.2.2.2.2.2.1 bt155.2.2.2.2.2.2.2.2.2.2 a0_0 a0_1 (-1) 0 ([] : List (S38)) a1 (-1) (-1) ([] : List Int) ([] : List (S58)) 0).bind fun t172 => (some t172))) else (some false))) = some r := h
  clear h
  replace H := Option.bind_eq_some_iff.mp H
  obtain ⟨t154, A30, H⟩ := H
  replace H : (if t154 = true then ((route_Static.f a0_0 a0_1 a1).bind fun bt155 => ((interregnumref11_SameRoute.f k bt155.1 bt155.2.1 bt155.2.2.1 bt155.2.2.2.1 bt155.2.2.2.2.1 bt155.2.2.2.2.2.1 bt155.2.2.2.2.2.2.1 bt155.2.2.2.2.2.2.2.1 bt155.2.2.2.2.2.2.2.2.1 bt155.2.2.2.2.2.2.2.2.2.1 bt155.2.2.2.2.2.2.2.2.2.2 a0_0 a0_1 (-1) 0 ([] : List (S38)) a1 (-1) (-1) ([] : List Int) ([] : List (S58)) 0).bind fun t172 => (some t172))) else (some false)) = some r := H
  have A3 := Aside0.mk A30
  clear A30
  by_cases c4 : t154 = true
  · subst c4
    have H1 : ((route_Static.f a0_0 a0_1 a1).bind fun bt155 => ((interregnumref11_SameRoute.f k bt155.1 bt155.2.1 bt155.2.2.1 bt155.2.2.2.1 bt155.2.2.2.2.1 bt155.2.2.2.2.2.1 bt155.2.2.2.2.2.2.1 bt155.2.2.2.2.2.2.2.1 bt155.2.2.2.2.2.2.2.2.1 bt155.2.2.2.2.2.2.2.2.2.1 bt155.2.2.2.2.2.2.2.2.2.2 a0_0 a0_1 (-1) 0 ([] : List (S38)) a1 (-1) (-1) ([] : List Int) ([] : List (S58)) 0).bind fun t172 => (some t172))) = some r := by rw [if_pos rfl] at H; exact H
    clear H
    have H := H1
    clear H1
    replace H := Option.bind_eq_some_iff.mp H
    obtain ⟨⟨t155, t156, t157, t158, t159, t162, t163, t164, t165, t168, t171⟩, A50, H⟩ := H
    replace H : ((interregnumref11_SameRoute.f k t155 t156 t157 t158 t159 t162 t163 t164 t165 t168 t171 a0_0 a0_1 (-1) 0 ([] : List (S38)) a1 (-1) (-1) ([] : List Int) ([] : List (S58)) 0).bind fun t172 => (some t172)) = some r := H
    have A5 := Aside0.mk A50
    clear A50
    replace H := Option.bind_eq_some_iff.mp H
    obtain ⟨t172, A60, H⟩ := H
    replace H : (some t172) = some r := H
    have A6 := Aside0.mk A60
    clear A60
    obtain rfl := Option.some.inj H
    go_enter Try.func10, Try.ntmps10
    try go_wp2_with (first | ((with_reducible refine gate_dst (N := 2) rfl ?_); refine box_event ?hg (N := 2) ?hd (cs := #[.int .u32 a0_0, .int .i64 a0_1]) (t := 42) ?hr ?_; (case hd => rfl); (case hg => rfl); (case hr => first | (go_simp; done) | (go_simp; rfl) | (go_simp; simp [IntKind.wrap_u8, IntKind.wrap_u32]; done)); intro gb153 hg w7 hbox hb; have n0_ := Aside0.mk (below_step (by repeat (first | (with_reducible first | exact HB.out | apply below_alloc | apply pw_below_drewN | apply below_drew1) | exact HB.out)) hb); have n1_ := Aside0.mk (hbox); have n2_ := Aside0.mk ((by rw [hg]; exact (below_size (by repeat (first | (with_reducible first | exact HB.out | apply below_alloc | apply pw_below_drewN | apply below_drew1) | exact HB.out))) : w.heap.size ≤ gb153)); have n3_ := Aside0.mk ((by rw [hg]; exact (below_size (by repeat (first | (with_reducible first | exact HB.out | apply below_alloc | apply pw_below_drewN | apply below_drew1) | exact HB.out))) : w.heap.size ≤ gb153)); clear HB; have HB := n0_; have BK153 := n1_; have GW153 := n2_; have GE153 := n3_; clear n0_ n1_ n2_ n3_; clear hb hbox hg))
    have n0_ := Aside0.mk (blk_drew BK153.out)
    have n1_ := Aside0.mk (below_drew1 HB.out)
    clear BK153
    clear HB
    have BK153 := n0_
    have HB := n1_
    clear n0_ n1_
    refine start_ (n := 12) (S := fun w' => w'.cell? ⟨gb153, 0, none⟩ = some (.int .u32 a0_0) ∧ w'.cell? ⟨gb153, 1, none⟩ = some (.int .i64 a0_1)) (ds := []) #[false, false, false, false, false, false, false, false, false, false, false, false] (by kernel_rfl) rfl rfl ⟨(blk_cell BK153.out 0).trans rfl, (blk_cell BK153.out 1).trans rfl⟩ (fun hHeld => ?_); refine with_tabW interregnumlaw13_RouteStatic.tab1 interregnumlaw13_RouteStatic.bits1 (fun HT_ HW_ => ?_)
    generalize w7.drew = w8 at BK153 HB hHeld ⊢
    refine one_ (i := 0) (N := some 5) #[true, false, false, false, false, false, false, false, false, false, false, false] rfl rfl (one_of HT_.out (by kernel_rfl)) (by decide) (fun K hK => ?_)
    refine goes_ Try.func29 (by kernel_rfl) rfl #[] (by rfl) rfl rfl (by (try simp only [List.map_toArray, List.map_cons, List.map_nil]); first | done | rfl | (simp only [List.length_drop, List.length_take]; rfl)) ?_
    with_reducible refine (interregnumlaw13_answers.calls  true _ A3.out).mono ?_
    rintro e w9 ⟨rfl, hb⟩
    refine ⟨_, rfl, ?_⟩
    have n0_ := Aside0.mk (blk_below (g := gb153) (o := .cells #[.int .u32 a0_0, .int .i64 a0_1] 42 (0, 0)) (by (with_reducible repeat (first | refine blk_drewN ?_ _ | refine blk_drew ?_ | refine blk_alloc ?_ _)); exact BK153.out) hb)
    have n1_ := Aside0.mk (below_step (by repeat (first | (with_reducible first | exact HB.out | apply below_alloc | apply pw_below_drewN | apply below_drew1 | refine below_set ?_ GE153.out) | exact HB.out)) hb)
    clear BK153
    clear HB
    have BK153 := n0_
    have HB := n1_
    clear n0_ n1_
    (try clear hb)
    (try clear hb2)
    (try clear hk)
    (try clear hi)
    refine hK.out _ _ ⟨(blk_cell BK153.out 0).trans rfl, (blk_cell BK153.out 1).trans rfl⟩ (fun hHeld => ?_)
    clear hK K
    refine norm_ (a' := ?_) ?_ ?_
    rotate_left
    · show Act.put _ (some 5) _ = _
      simp only [Act.put, List.setIfInBounds_toArray, List.set_cons_zero, List.set_cons_succ, i64_w, i32_w]
      rfl
    refine pure_ (i := 1) (N := some 6) (v := ?_) (a' := ?_) #[true, true, false, false, false, false, false, false, false, false, false, false] rfl rfl (any_of HT_.out (by kernel_rfl)) (fun _ _ _ h => h) (Or.inl ⟨by rfl, ?_⟩) ?_ ?_
    rotate_left
    · intro w'
      go_simp
      with_reducible rfl
    rotate_left
    · simp only [Act.put, List.setIfInBounds_toArray, List.set_cons_zero, List.set_cons_succ, i64_w, i32_w]
      rfl
    refine pure_ (i := 3) (N := some 8) (v := ?_) (a' := ?_) #[true, true, false, true, false, false, false, false, false, false, false, false] rfl rfl (any_of HT_.out (by kernel_rfl)) (fun _ _ _ h => h) (Or.inl ⟨by rfl, ?_⟩) ?_ ?_
    rotate_left
    · intro w'
      go_simp
      with_reducible rfl
    rotate_left
    · simp only [Act.put, List.setIfInBounds_toArray, List.set_cons_zero, List.set_cons_succ, i64_w, i32_w]
      rfl
    refine pure_ (i := 6) (N := some 11) (v := ?_) (a' := ?_) #[true, true, false, true, false, false, true, false, false, false, false, false] rfl rfl (any_of HT_.out (by kernel_rfl)) (fun _ _ _ h => h) (Or.inl ⟨by rfl, ?_⟩) ?_ ?_
    rotate_left
    · intro w'
      go_simp
      with_reducible rfl
    rotate_left
    · simp only [Act.put, List.setIfInBounds_toArray, List.set_cons_zero, List.set_cons_succ, i64_w, i32_w]
      rfl
    refine pure_ (i := 7) (N := some 12) (v := ?_) (a' := ?_) #[true, true, false, true, false, false, true, true, false, false, false, false] rfl rfl (any_of HT_.out (by kernel_rfl)) (fun _ _ _ h => h) (Or.inl ⟨by rfl, ?_⟩) ?_ ?_
    rotate_left
    · intro w'
      go_simp
      with_reducible rfl
    rotate_left
    · simp only [Act.put, List.setIfInBounds_toArray, List.set_cons_zero, List.set_cons_succ, i64_w, i32_w]
      rfl
    refine take_ (i := 2) (N := some 7) (v := ?_) (a' := ?_) #[true, true, true, true, false, false, true, true, false, false, false, false] rfl rfl (take_ofW HT_.out HW_.out (by kernel_rfl)) (fun _ _ _ h => h) (Or.inl ⟨by rfl, ?_⟩) hHeld ?_ ?_
    rotate_left
    · rintro w' ⟨s0, s1⟩
      go_simp
      with_reducible rfl
    rotate_left
    · simp only [Act.put, List.setIfInBounds_toArray, List.set_cons_zero, List.set_cons_succ, i64_w, i32_w]
      rfl
    refine take_ (i := 5) (N := some 10) (v := ?_) (a' := ?_) #[true, true, true, true, false, true, true, true, false, false, false, false] rfl rfl (take_ofW HT_.out HW_.out (by kernel_rfl)) (fun _ _ _ h => h) (Or.inl ⟨by rfl, ?_⟩) hHeld ?_ ?_
    rotate_left
    · rintro w' ⟨s0, s1⟩
      go_simp
      with_reducible rfl
    rotate_left
    · simp only [Act.put, List.setIfInBounds_toArray, List.set_cons_zero, List.set_cons_succ, i64_w, i32_w]
      rfl
    refine pure_ (i := 8) (N := some 13) (v := ?_) (a' := ?_) #[true, true, true, true, false, true, true, true, true, false, false, false] rfl rfl (any_of HT_.out (by kernel_rfl)) (fun _ _ _ h => h) (Or.inl ⟨by rfl, ?_⟩) ?_ ?_
    rotate_left
    · intro w'
      go_simp
      with_reducible rfl
    rotate_left
    · simp only [Act.put, List.setIfInBounds_toArray, List.set_cons_zero, List.set_cons_succ, i64_w, i32_w]
      rfl
    refine one_ (i := 4) (N := some 9) #[true, true, true, true, true, true, true, true, true, false, false, false] rfl rfl (one_of HT_.out (by kernel_rfl)) (by decide) (fun K hK => ?_)
    refine goes_ Try.func38 (by kernel_rfl) rfl #[.agg #[.int .u32 a0_0, .int .i64 a0_1], .int .u32 a1] (by rfl) rfl rfl (by (try simp only [List.map_toArray, List.map_cons, List.map_nil]); first | done | rfl | (simp only [List.length_drop, List.length_take]; rfl)) ?_
    with_reducible refine (route_Static.calls a0_0 a0_1 a1 t155 t156 t157 t158 t159 t162 t163 t164 t165 t168 t171 _ A5.out).mono ?_
    rintro e w10 ⟨v160, v166, v169, rfl, ho0, ho1, ho2, hb⟩
    refine ⟨_, rfl, ?_⟩
    have n0_ := Aside0.mk (Kd.S_lower ho0 (below_size (by repeat (first | (with_reducible first | exact HB.out | apply below_alloc | apply pw_below_drewN | apply below_drew1 | refine below_set ?_ GE153.out) | exact HB.out))))
    have n1_ := Aside0.mk (Kd.R_lower ho1 (below_size (by repeat (first | (with_reducible first | exact HB.out | apply below_alloc | apply pw_below_drewN | apply below_drew1 | refine below_set ?_ GE153.out) | exact HB.out))))
    have n2_ := Aside0.mk (Kd.S_lower ho2 (below_size (by repeat (first | (with_reducible first | exact HB.out | apply below_alloc | apply pw_below_drewN | apply below_drew1 | refine below_set ?_ GE153.out) | exact HB.out))))
    have n3_ := Aside0.mk (blk_below (g := gb153) (o := .cells #[.int .u32 a0_0, .int .i64 a0_1] 42 (0, 0)) (by (with_reducible repeat (first | refine blk_drewN ?_ _ | refine blk_drew ?_ | refine blk_alloc ?_ _)); exact BK153.out) hb)
    have n4_ := Aside0.mk (below_step (by repeat (first | (with_reducible first | exact HB.out | apply below_alloc | apply pw_below_drewN | apply below_drew1 | refine below_set ?_ GE153.out) | exact HB.out)) hb)
    clear BK153
    clear HB
    have HO161 := n0_
    have HO167 := n1_
    have HO170 := n2_
    have BK153 := n3_
    have HB := n4_
    clear n0_ n1_ n2_ n3_ n4_
    (try clear hb)
    (try clear hb2)
    (try clear hk)
    (try clear hi)
    (try clear ho0)
    (try clear ho1)
    (try clear ho2)
    obtain ⟨Ao11, co11, eo11⟩ := Kd.S_slice HO161.out
    (first | subst eo11 | (injection eo11 with f1_ f2_ f3_; have f4_ := f1_.symm; have f5_ := f3_.symm; clear f1_ f2_ f3_; subst f4_; subst f5_))
    obtain ⟨Ao12, co12, eo12⟩ := Kd.R_slice HO167.out
    (first | subst eo12 | (injection eo12 with f1_ f2_ f3_; have f4_ := f1_.symm; have f5_ := f3_.symm; clear f1_ f2_ f3_; subst f4_; subst f5_))
    obtain ⟨Ao13, co13, eo13⟩ := Kd.S_slice HO170.out
    (first | subst eo13 | (injection eo13 with f1_ f2_ f3_; have f4_ := f1_.symm; have f5_ := f3_.symm; clear f1_ f2_ f3_; subst f4_; subst f5_))
    refine hK.out _ _ ⟨(blk_cell BK153.out 0).trans rfl, (blk_cell BK153.out 1).trans rfl⟩ (fun hHeld => ?_)
    clear hK K
    refine norm_ (a' := ?_) ?_ ?_
    rotate_left
    · show Act.put _ (some 9) _ = _
      simp only [Act.put, List.setIfInBounds_toArray, List.set_cons_zero, List.set_cons_succ, i64_w, i32_w]
      rfl
    refine one_ (i := 9) (N := some 14) #[true, true, true, true, true, true, true, true, true, true, false, false] rfl rfl (one_of HT_.out (by kernel_rfl)) (by decide) (fun K hK => ?_)
    refine goes_ Try.func32 (by kernel_rfl) rfl #[.agg #[.int .u32 t155, .int .i64 t156, .int .i64 t157, .int .i64 t158, .slice Ao11 t159.length co11, .int .u32 t162, .int .i64 t163, .int .i64 t164, .slice Ao12 t165.length co12, .slice Ao13 t168.length co13, .int .i64 t171], .agg #[.int .u32 a0_0, .int .i64 a0_1, .int .i64 (-1), .int .i64 0, .slice none 0 0, .int .u32 a1, .int .i64 (-1), .int .i64 (-1), .slice none 0 0, .slice none 0 0, .int .i64 0]] (by rfl) rfl rfl (by (try simp only [List.map_toArray, List.map_cons, List.map_nil]); first | done | rfl | (simp only [List.length_drop, List.length_take]; rfl)) ?_
    refine (interregnumref11_SameRoute.calls k t155 t156 t157 t158 _ _ t159 t162 t163 t164 _ _ t165 _ _ t168 t171 a0_0 a0_1 (-1) 0 _ _ ([] : List (S38)) a1 (-1) (-1) _ _ ([] : List Int) _ _ ([] : List (S58)) 0 t172 _ ?side1 ?side2 ?side3 ?side4 ?side5 ?side6 ?side7 ?side8 ?side9 ?side10 ?side11 ?side12 A6.out).mono ?_
    (case side1 => repeat (first | exact (Kd.S_reads' HO161.out).2.2 | (with_reducible refine Kd.C_alloc ?_ _) | (with_reducible refine Kd.C_drewN ?_ _) | (with_reducible refine Kd.C_drew ?_)))
    (case side2 => exact (Kd.S_reads' HO161.out).2.1)
    (case side3 => repeat (first | exact (Kd.R_reads' HO167.out).2.2 | (with_reducible refine Kd.C_alloc ?_ _) | (with_reducible refine Kd.C_drewN ?_ _) | (with_reducible refine Kd.C_drew ?_)))
    (case side4 => exact (Kd.R_reads' HO167.out).2.1)
    (case side5 => repeat (first | exact (Kd.S_reads' HO170.out).2.2 | (with_reducible refine Kd.C_alloc ?_ _) | (with_reducible refine Kd.C_drewN ?_ _) | (with_reducible refine Kd.C_drew ?_)))
    (case side6 => exact (Kd.S_reads' HO170.out).2.1)
    (case side7 => exact Kd.C_nil _ _)
    (case side8 => exact Nat.le_refl _)
    (case side9 => exact Kd.C_nil _ _)
    (case side10 => exact Nat.le_refl _)
    (case side11 => exact Kd.C_nil _ _)
    (case side12 => exact Nat.le_refl _)
    rintro e w14 ⟨rfl, hb⟩
    refine ⟨_, rfl, ?_⟩
    have n0_ := Aside0.mk (Kd.S_below (by (with_reducible repeat (first | apply Kd.S_alloc | apply Kd.S_drewN | apply Kd.S_drew)); exact HO161.out) hb)
    have n1_ := Aside0.mk (Kd.R_below (by (with_reducible repeat (first | apply Kd.R_alloc | apply Kd.R_drewN | apply Kd.R_drew)); exact HO167.out) hb)
    have n2_ := Aside0.mk (Kd.S_below (by (with_reducible repeat (first | apply Kd.S_alloc | apply Kd.S_drewN | apply Kd.S_drew)); exact HO170.out) hb)
    have n3_ := Aside0.mk (blk_below (g := gb153) (o := .cells #[.int .u32 a0_0, .int .i64 a0_1] 42 (0, 0)) (by (with_reducible repeat (first | refine blk_drewN ?_ _ | refine blk_drew ?_ | refine blk_alloc ?_ _)); exact BK153.out) hb)
    have n4_ := Aside0.mk (below_step (by repeat (first | (with_reducible first | exact HB.out | apply below_alloc | apply pw_below_drewN | apply below_drew1 | refine below_set ?_ GE153.out) | exact HB.out)) hb)
    clear HO161
    clear HO167
    clear HO170
    clear BK153
    clear HB
    have HO161 := n0_
    have HO167 := n1_
    have HO170 := n2_
    have BK153 := n3_
    have HB := n4_
    clear n0_ n1_ n2_ n3_ n4_
    (try clear hb)
    (try clear hb2)
    (try clear hk)
    (try clear hi)
    refine hK.out _ _ ⟨(blk_cell BK153.out 0).trans rfl, (blk_cell BK153.out 1).trans rfl⟩ (fun hHeld => ?_)
    clear hK K
    refine norm_ (a' := ?_) ?_ ?_
    rotate_left
    · show Act.put _ (some 14) _ = _
      simp only [Act.put, List.setIfInBounds_toArray, List.set_cons_zero, List.set_cons_succ, i64_w, i32_w]
      rfl
    refine pure_ (i := 10) (N := some 15) (v := ?_) (a' := ?_) #[true, true, true, true, true, true, true, true, true, true, true, false] rfl rfl (any_of HT_.out (by kernel_rfl)) (fun _ _ _ h => h) (Or.inl ⟨by rfl, ?_⟩) ?_ ?_
    rotate_left
    · intro w'
      go_simp
      with_reducible rfl
    rotate_left
    · simp only [Act.put, List.setIfInBounds_toArray, List.set_cons_zero, List.set_cons_succ, i64_w, i32_w]
      rfl
    refine pure_ (i := 11) (N := some 4) (v := ?_) (a' := ?_) #[true, true, true, true, true, true, true, true, true, true, true, true] rfl rfl (any_of HT_.out (by kernel_rfl)) (fun _ _ _ h => h) (Or.inl ⟨by rfl, ?_⟩) ?_ ?_
    rotate_left
    · intro w'
      go_simp
      with_reducible rfl
    rotate_left
    · simp only [Act.put, List.setIfInBounds_toArray, List.set_cons_zero, List.set_cons_succ, i64_w, i32_w]
      rfl
    refine done_ (done_of HT_.out (by kernel_rfl)) ?_
    try go_wp2
    go_ret
    exact ⟨by first | rfl | (simp [errW_none, errW_some] <;> rfl) | (simp [*, errW_none, errW_some] <;> rfl), by repeat (first | (with_reducible first | exact HB.out | apply below_alloc | apply pw_below_drewN | apply below_drew1 | refine below_set ?_ GE153.out) | exact HB.out)⟩
  · replace c4 := Bool.eq_false_iff.mpr c4
    subst c4
    have H1 : (some false) = some r := by rw [if_neg (show ¬ (false = true) by decide)] at H; exact H
    clear H
    have H := H1
    clear H1
    obtain rfl := Option.some.inj H
    go_enter Try.func10, Try.ntmps10
    try go_wp2_with (first | ((with_reducible refine gate_dst (N := 2) rfl ?_); refine box_event ?hg (N := 2) ?hd (cs := #[.int .u32 a0_0, .int .i64 a0_1]) (t := 42) ?hr ?_; (case hd => rfl); (case hg => rfl); (case hr => first | (go_simp; done) | (go_simp; rfl) | (go_simp; simp [IntKind.wrap_u8, IntKind.wrap_u32]; done)); intro gb153 hg w15 hbox hb; have n0_ := Aside0.mk (below_step (by repeat (first | (with_reducible first | exact HB.out | apply below_alloc | apply pw_below_drewN | apply below_drew1) | exact HB.out)) hb); have n1_ := Aside0.mk (hbox); have n2_ := Aside0.mk ((by rw [hg]; exact (below_size (by repeat (first | (with_reducible first | exact HB.out | apply below_alloc | apply pw_below_drewN | apply below_drew1) | exact HB.out))) : w.heap.size ≤ gb153)); have n3_ := Aside0.mk ((by rw [hg]; exact (below_size (by repeat (first | (with_reducible first | exact HB.out | apply below_alloc | apply pw_below_drewN | apply below_drew1) | exact HB.out))) : w.heap.size ≤ gb153)); clear HB; have HB := n0_; have BK153 := n1_; have GW153 := n2_; have GE153 := n3_; clear n0_ n1_ n2_ n3_; clear hb hbox hg))
    have n0_ := Aside0.mk (blk_drew BK153.out)
    have n1_ := Aside0.mk (below_drew1 HB.out)
    clear BK153
    clear HB
    have BK153 := n0_
    have HB := n1_
    clear n0_ n1_
    refine start_ (n := 12) (S := fun w' => True) (ds := []) #[false, false, false, false, false, false, false, false, false, false, false, false] (by kernel_rfl) rfl rfl trivial (fun hHeld => ?_); refine with_tabW interregnumlaw13_RouteStatic.tab1 interregnumlaw13_RouteStatic.bits1 (fun HT_ HW_ => ?_)
    generalize w15.drew = w16 at BK153 HB hHeld ⊢
    refine one_ (i := 0) (N := some 5) #[true, false, false, false, false, false, false, false, false, false, false, false] rfl rfl (one_of HT_.out (by kernel_rfl)) (by decide) (fun K hK => ?_)
    refine goes_ Try.func29 (by kernel_rfl) rfl #[] (by rfl) rfl rfl (by (try simp only [List.map_toArray, List.map_cons, List.map_nil]); first | done | rfl | (simp only [List.length_drop, List.length_take]; rfl)) ?_
    with_reducible refine (interregnumlaw13_answers.calls  false _ A3.out).mono ?_
    rintro e w17 ⟨rfl, hb⟩
    refine ⟨_, rfl, ?_⟩
    have n0_ := Aside0.mk (blk_below (g := gb153) (o := .cells #[.int .u32 a0_0, .int .i64 a0_1] 42 (0, 0)) (by (with_reducible repeat (first | refine blk_drewN ?_ _ | refine blk_drew ?_ | refine blk_alloc ?_ _)); exact BK153.out) hb)
    have n1_ := Aside0.mk (below_step (by repeat (first | (with_reducible first | exact HB.out | apply below_alloc | apply pw_below_drewN | apply below_drew1 | refine below_set ?_ GE153.out) | exact HB.out)) hb)
    clear BK153
    clear HB
    have BK153 := n0_
    have HB := n1_
    clear n0_ n1_
    (try clear hb)
    (try clear hb2)
    (try clear hk)
    (try clear hi)
    refine hK.out _ _ trivial (fun hHeld => ?_)
    clear hK K
    refine norm_ (a' := ?_) ?_ ?_
    rotate_left
    · show Act.put _ (some 5) _ = _
      simp only [Act.put, List.setIfInBounds_toArray, List.set_cons_zero, List.set_cons_succ, i64_w, i32_w]
      rfl
    refine pure_ (i := 1) (N := some 6) (v := ?_) (a' := ?_) #[true, true, false, false, false, false, false, false, false, false, false, false] rfl rfl (any_of HT_.out (by kernel_rfl)) (fun _ _ _ h => h) (Or.inl ⟨by rfl, ?_⟩) ?_ ?_
    rotate_left
    · intro w'
      go_simp
      with_reducible rfl
    rotate_left
    · simp only [Act.put, List.setIfInBounds_toArray, List.set_cons_zero, List.set_cons_succ, i64_w, i32_w]
      rfl
    refine pure_ (i := 2) (N := some 7) (v := undef) (a' := ?_) #[true, true, true, false, false, false, false, false, false, false, false, false] rfl rfl (any_of HT_.out (by kernel_rfl)) (fun _ _ _ h => h) (Or.inr ⟨by rfl, rfl⟩) ?_ ?_
    rotate_left
    · simp only [Act.put, List.setIfInBounds_toArray, List.set_cons_zero, List.set_cons_succ, i64_w, i32_w]
      rfl
    refine pure_ (i := 3) (N := some 8) (v := undef) (a' := ?_) #[true, true, true, true, false, false, false, false, false, false, false, false] rfl rfl (any_of HT_.out (by kernel_rfl)) (fun _ _ _ h => h) (Or.inr ⟨by rfl, rfl⟩) ?_ ?_
    rotate_left
    · simp only [Act.put, List.setIfInBounds_toArray, List.set_cons_zero, List.set_cons_succ, i64_w, i32_w]
      rfl
    refine pure_ (i := 4) (N := some 9) (v := undef) (a' := ?_) #[true, true, true, true, true, false, false, false, false, false, false, false] rfl rfl (any_of HT_.out (by kernel_rfl)) (fun _ _ _ h => h) (Or.inr ⟨by rfl, rfl⟩) ?_ ?_
    rotate_left
    · simp only [Act.put, List.setIfInBounds_toArray, List.set_cons_zero, List.set_cons_succ, i64_w, i32_w]
      rfl
    refine pure_ (i := 5) (N := some 10) (v := undef) (a' := ?_) #[true, true, true, true, true, true, false, false, false, false, false, false] rfl rfl (any_of HT_.out (by kernel_rfl)) (fun _ _ _ h => h) (Or.inr ⟨by rfl, rfl⟩) ?_ ?_
    rotate_left
    · simp only [Act.put, List.setIfInBounds_toArray, List.set_cons_zero, List.set_cons_succ, i64_w, i32_w]
      rfl
    refine pure_ (i := 6) (N := some 11) (v := undef) (a' := ?_) #[true, true, true, true, true, true, true, false, false, false, false, false] rfl rfl (any_of HT_.out (by kernel_rfl)) (fun _ _ _ h => h) (Or.inr ⟨by rfl, rfl⟩) ?_ ?_
    rotate_left
    · simp only [Act.put, List.setIfInBounds_toArray, List.set_cons_zero, List.set_cons_succ, i64_w, i32_w]
      rfl
    refine pure_ (i := 7) (N := some 12) (v := undef) (a' := ?_) #[true, true, true, true, true, true, true, true, false, false, false, false] rfl rfl (any_of HT_.out (by kernel_rfl)) (fun _ _ _ h => h) (Or.inr ⟨by rfl, rfl⟩) ?_ ?_
    rotate_left
    · simp only [Act.put, List.setIfInBounds_toArray, List.set_cons_zero, List.set_cons_succ, i64_w, i32_w]
      rfl
    refine pure_ (i := 8) (N := some 13) (v := undef) (a' := ?_) #[true, true, true, true, true, true, true, true, true, false, false, false] rfl rfl (any_of HT_.out (by kernel_rfl)) (fun _ _ _ h => h) (Or.inr ⟨by rfl, rfl⟩) ?_ ?_
    rotate_left
    · simp only [Act.put, List.setIfInBounds_toArray, List.set_cons_zero, List.set_cons_succ, i64_w, i32_w]
      rfl
    refine pure_ (i := 9) (N := some 14) (v := undef) (a' := ?_) #[true, true, true, true, true, true, true, true, true, true, false, false] rfl rfl (any_of HT_.out (by kernel_rfl)) (fun _ _ _ h => h) (Or.inr ⟨by rfl, rfl⟩) ?_ ?_
    rotate_left
    · simp only [Act.put, List.setIfInBounds_toArray, List.set_cons_zero, List.set_cons_succ, i64_w, i32_w]
      rfl
    refine pure_ (i := 10) (N := some 15) (v := ?_) (a' := ?_) #[true, true, true, true, true, true, true, true, true, true, true, false] rfl rfl (any_of HT_.out (by kernel_rfl)) (fun _ _ _ h => h) (Or.inl ⟨by rfl, ?_⟩) ?_ ?_
    rotate_left
    · intro w'
      go_simp
      with_reducible rfl
    rotate_left
    · simp only [Act.put, List.setIfInBounds_toArray, List.set_cons_zero, List.set_cons_succ, i64_w, i32_w]
      rfl
    refine pure_ (i := 11) (N := some 4) (v := ?_) (a' := ?_) #[true, true, true, true, true, true, true, true, true, true, true, true] rfl rfl (any_of HT_.out (by kernel_rfl)) (fun _ _ _ h => h) (Or.inl ⟨by rfl, ?_⟩) ?_ ?_
    rotate_left
    · intro w'
      go_simp
      with_reducible rfl
    rotate_left
    · simp only [Act.put, List.setIfInBounds_toArray, List.set_cons_zero, List.set_cons_succ, i64_w, i32_w]
      rfl
    refine done_ (done_of HT_.out (by kernel_rfl)) ?_
    try go_wp2
    go_ret
    exact ⟨by first | rfl | (simp [errW_none, errW_some] <;> rfl) | (simp [*, errW_none, errW_some] <;> rfl), by repeat (first | (with_reducible first | exact HB.out | apply below_alloc | apply pw_below_drewN | apply below_drew1 | refine below_set ?_ GE153.out) | exact HB.out)⟩

end Go.Proofs.Ytpkckkmgnlhhcaa.PRouteStatic
