-- Lean text by a program of this repo (wip/tools/printx.py), out of Lean's own print of the translation
import Derived.Test.YtpkckkmgnlhhcaaMid
import Derived.RegionTactic
import Derived.RegionCalls
import Derived.Lib.LazyBuf
import Derived.BigRegion
import Derived.Test.YtpkckkmgnlhhcaaHelp
import Derived.Test.YtpkckkmgnlhhcaaPRouteOwnx0
import Derived.Test.YtpkckkmgnlhhcaaPRouteOwnx1
import Derived.Test.YtpkckkmgnlhhcaaPRouteOwnx2
import Derived.Test.YtpkckkmgnlhhcaaPRouteOwnx3
namespace Go.Proofs.Ytpkckkmgnlhhcaa.PRouteOwn
open Go.RowKit Go.Proofs.YtpkckkmgnlhhcaaW.PrintWords Go.Proofs.YtpkckkmgnlhhcaaW.PrintLast Go.Proofs.YtpkckkmgnlhhcaaW.PrintMore
attribute [local go_sem] max2_int min2_int max_two min_two max_three min_three max_four min_four   -- for this text's walks alone
set_option linter.unusedVariables false
set_option linter.unusedSimpArgs false

attribute [local go_sem high] eqA42
/-! ### route_Same: function 33 -/
def route_Same.f (a0_0 : Int) (a0_1 : Int) (a0_2 : Int) (a0_3 : Int) (l0_4 : List (S38)) (a0_5 : Int) (a0_6 : Int) (a0_7 : Int) (l0_8 : List Int) (l0_9 : List (S58)) (a0_10 : Int) (a1_0 : Int) (a1_1 : Int) (a1_2 : Int) (a1_3 : Int) (l1_4 : List (S38)) (a1_5 : Int) (a1_6 : Int) (a1_7 : Int) (l1_8 : List Int) (l1_9 : List (S58)) (a1_10 : Int) : Option (Bool) := if (a0_0 == a1_0 && (a0_1 == a1_1)) = true then (if a0_2 = a1_2 then (if a0_10 = a1_10 then ((attr_Same.f a0_3 l0_4 a0_5 a0_6 a0_7 l0_8 l0_9 a1_3 l1_4 a1_5 a1_6 a1_7 l1_8 l1_9).bind fun t121 => (some t121)) else (some false)) else (some false)) else (some false)
set_option maxHeartbeats 8000000 in
set_option maxRecDepth 100000 in
theorem route_Same.calls (a0_0 : Int) (a0_1 : Int) (a0_2 : Int) (a0_3 : Int) (A0_4 : Option Addr) (c0_4 : Nat) (l0_4 : List (S38)) (a0_5 : Int) (a0_6 : Int) (a0_7 : Int) (A0_8 : Option Addr) (c0_8 : Nat) (l0_8 : List Int) (A0_9 : Option Addr) (c0_9 : Nat) (l0_9 : List (S58)) (a0_10 : Int) (a1_0 : Int) (a1_1 : Int) (a1_2 : Int) (a1_3 : Int) (A1_4 : Option Addr) (c1_4 : Nat) (l1_4 : List (S38)) (a1_5 : Int) (a1_6 : Int) (a1_7 : Int) (A1_8 : Option Addr) (c1_8 : Nat) (l1_8 : List Int) (A1_9 : Option Addr) (c1_9 : Nat) (l1_9 : List (S58)) (a1_10 : Int) (r : Bool) (w : World) (hr0_4 : Kd.C k38 w A0_4 l0_4.length l0_4) (hc0_4 : l0_4.length ≤ c0_4) (hr0_8 : Kd.C (Kd.int .u32) w A0_8 l0_8.length l0_8) (hc0_8 : l0_8.length ≤ c0_8) (hr0_9 : Kd.C k58 w A0_9 l0_9.length l0_9) (hc0_9 : l0_9.length ≤ c0_9) (hr1_4 : Kd.C k38 w A1_4 l1_4.length l1_4) (hc1_4 : l1_4.length ≤ c1_4) (hr1_8 : Kd.C (Kd.int .u32) w A1_8 l1_8.length l1_8) (hc1_8 : l1_8.length ≤ c1_8) (hr1_9 : Kd.C k58 w A1_9 l1_9.length l1_9) (hc1_9 : l1_9.length ≤ c1_9) (h : route_Same.f a0_0 a0_1 a0_2 a0_3 l0_4 a0_5 a0_6 a0_7 l0_8 l0_9 a0_10 a1_0 a1_1 a1_2 a1_3 l1_4 a1_5 a1_6 a1_7 l1_8 l1_9 a1_10 = some r) :
    Calls Try.prog 33 #[.agg #[.int .u32 a0_0, .int .i64 a0_1, .int .i64 a0_2, .int .i64 a0_3, .slice A0_4 l0_4.length c0_4, .int .u32 a0_5, .int .i64 a0_6, .int .i64 a0_7, .slice A0_8 l0_8.length c0_8, .slice A0_9 l0_9.length c0_9, .int .i64 a0_10], .agg #[.int .u32 a1_0, .int .i64 a1_1, .int .i64 a1_2, .int .i64 a1_3, .slice A1_4 l1_4.length c1_4, .int .u32 a1_5, .int .i64 a1_6, .int .i64 a1_7, .slice A1_8 l1_8.length c1_8, .slice A1_9 l1_9.length c1_9, .int .i64 a1_10]] w fun e w' => e = .returned (.bool r) ∧ Below w.heap.size w w' := by
  have hu48 := Try.underlying48
  have hu42 := Try.underlying42
  have hu46 := Try.underlying46
  have HR0_4 := Aside0.mk hr0_4
  have HC0_4 := Aside0.mk hc0_4
  clear hr0_4 hc0_4
  have HR0_8 := Aside0.mk hr0_8
  have HC0_8 := Aside0.mk hc0_8
  clear hr0_8 hc0_8
  have HR0_9 := Aside0.mk hr0_9
  have HC0_9 := Aside0.mk hc0_9
  clear hr0_9 hc0_9
  have HR1_4 := Aside0.mk hr1_4
  have HC1_4 := Aside0.mk hc1_4
  clear hr1_4 hc1_4
  have HR1_8 := Aside0.mk hr1_8
  have HC1_8 := Aside0.mk hc1_8
  clear hr1_8 hc1_8
  have HR1_9 := Aside0.mk hr1_9
  have HC1_9 := Aside0.mk hc1_9
  clear hr1_9 hc1_9
  have HB := Aside0.mk (Below.refl w.heap.size w)
  have H : (if (a0_0 == a1_0 && (a0_1 == a1_1)) = true then (if a0_2 = a1_2 then (if a0_10 = a1_10 then ((attr_Same.f a0_3 l0_4 a0_5 a0_6 a0_7 l0_8 l0_9 a1_3 l1_4 a1_5 a1_6 a1_7 l1_8 l1_9).bind fun t121 => (some t121)) else (some false)) else (some false)) else (some false)) = some r := h
  clear h
  by_cases c3 : (a0_0 == a1_0 && (a0_1 == a1_1)) = true
  · rw [if_pos c3] at H
    have c3b0 : (a0_0 == a1_0 && (a0_1 == a1_1)) = true := c3
    (try (have c3b1 : decide (a0_0 = a1_0 && (a0_1 == a1_1)) = true := by simpa using c3))
    (try (have c3b2 : (a0_0 == a1_0 && (a0_1 == a1_1)) = true := by simpa using c3))
    clear c3
    by_cases c4 : a0_2 = a1_2
    · rw [if_pos c4] at H
      have c4b0 : (a0_2 == a1_2) = true := beq_iff_eq.mpr c4
      have c4b1 : (a0_2 != a1_2) = false := bne_eq_false_iff_eq.mpr c4
      clear c4
      by_cases c5 : a0_10 = a1_10
      · rw [if_pos c5] at H
        have c5b0 : (a0_10 == a1_10) = true := beq_iff_eq.mpr c5
        have c5b1 : (a0_10 != a1_10) = false := bne_eq_false_iff_eq.mpr c5
        clear c5
        replace H := Option.bind_eq_some_iff.mp H
        obtain ⟨t121, A60, H⟩ := H
        replace H : (some t121) = some r := H
        have A6 := Aside0.mk A60
        clear A60
        obtain rfl := Option.some.inj H
        go_enter Try.func33, Try.ntmps33
        go_wp2_with (first | ((with_reducible refine gate_dst (N := 2) rfl ?_); refine box_event ?hg (N := 2) ?hd (cs := #[.int .u32 a0_0, .int .i64 a0_1, .int .i64 a0_2, .int .i64 a0_3, .slice A0_4 l0_4.length c0_4, .int .u32 a0_5, .int .i64 a0_6, .int .i64 a0_7, .slice A0_8 l0_8.length c0_8, .slice A0_9 l0_9.length c0_9, .int .i64 a0_10]) (t := 48) ?hr ?_; (case hd => rfl); (case hg => rfl); (case hr => first | (go_simp; done) | (go_simp; rfl) | (go_simp; simp [IntKind.wrap_u8, IntKind.wrap_u32]; done)); intro gb119 hg w7 hbox hb; have n0_ := Aside0.mk (below_step (by repeat (first | (with_reducible first | exact HB.out | apply below_alloc | apply pw_below_drewN | apply below_drew1) | exact HB.out)) hb); have n1_ := Aside0.mk (hbox); have n2_ := Aside0.mk ((by rw [hg]; exact (below_size (by repeat (first | (with_reducible first | exact HB.out | apply below_alloc | apply pw_below_drewN | apply below_drew1) | exact HB.out))) : w.heap.size ≤ gb119)); have n3_ := Aside0.mk ((by rw [hg]; exact (below_size (by repeat (first | (with_reducible first | exact HB.out | apply below_alloc | apply pw_below_drewN | apply below_drew1) | exact HB.out))) : w.heap.size ≤ gb119)); clear HB; have HB := n0_; have BK119 := n1_; have GW119 := n2_; have GE119 := n3_; clear n0_ n1_ n2_ n3_; clear hb hbox hg) | ((with_reducible refine gate_dst (N := 3) rfl ?_); refine box_event ?hg (N := 3) ?hd (cs := #[.int .u32 a1_0, .int .i64 a1_1, .int .i64 a1_2, .int .i64 a1_3, .slice A1_4 l1_4.length c1_4, .int .u32 a1_5, .int .i64 a1_6, .int .i64 a1_7, .slice A1_8 l1_8.length c1_8, .slice A1_9 l1_9.length c1_9, .int .i64 a1_10]) (t := 48) ?hr ?_; (case hd => rfl); (case hg => rfl); (case hr => first | (go_simp; done) | (go_simp; rfl) | (go_simp; simp [IntKind.wrap_u8, IntKind.wrap_u32]; done)); intro gb120 hg w8 hbox hb; have n0_ := Aside0.mk (blk_below (g := gb119) (o := .cells #[.int .u32 a0_0, .int .i64 a0_1, .int .i64 a0_2, .int .i64 a0_3, .slice A0_4 l0_4.length c0_4, .int .u32 a0_5, .int .i64 a0_6, .int .i64 a0_7, .slice A0_8 l0_8.length c0_8, .slice A0_9 l0_9.length c0_9, .int .i64 a0_10] 48 (0, 0)) (by (with_reducible repeat (first | refine blk_drewN ?_ _ | refine blk_drew ?_ | refine blk_alloc ?_ _)); exact BK119.out) hb); have n1_ := Aside0.mk (below_step (by repeat (first | (with_reducible first | exact HB.out | apply below_alloc | apply pw_below_drewN | apply below_drew1 | refine below_set ?_ GE119.out) | exact HB.out)) hb); have n2_ := Aside0.mk (hbox); have n3_ := Aside0.mk ((by rw [hg]; exact (below_size (by repeat (first | (with_reducible first | exact HB.out | apply below_alloc | apply pw_below_drewN | apply below_drew1 | refine below_set ?_ GE119.out) | exact HB.out))) : w.heap.size ≤ gb120)); have n4_ := Aside0.mk ((by rw [hg]; exact (below_size (by repeat (first | (with_reducible first | exact HB.out | apply below_alloc | apply pw_below_drewN | apply below_drew1 | refine below_set ?_ GE119.out) | exact HB.out))) : w.heap.size ≤ gb120)); have n5_ := Aside0.mk ((by rw [hg]; exact Nat.ne_of_lt (blk_lt (g := gb119) (o := .cells #[.int .u32 a0_0, .int .i64 a0_1, .int .i64 a0_2, .int .i64 a0_3, .slice A0_4 l0_4.length c0_4, .int .u32 a0_5, .int .i64 a0_6, .int .i64 a0_7, .slice A0_8 l0_8.length c0_8, .slice A0_9 l0_9.length c0_9, .int .i64 a0_10] 48 (0, 0)) (by (with_reducible repeat (first | refine blk_drewN ?_ _ | refine blk_drew ?_ | refine blk_alloc ?_ _)); exact BK119.out)) : gb119 ≠ gb120)); have n6_ := Aside0.mk ((by rw [hg]; exact Nat.ne_of_gt (blk_lt (g := gb119) (o := .cells #[.int .u32 a0_0, .int .i64 a0_1, .int .i64 a0_2, .int .i64 a0_3, .slice A0_4 l0_4.length c0_4, .int .u32 a0_5, .int .i64 a0_6, .int .i64 a0_7, .slice A0_8 l0_8.length c0_8, .slice A0_9 l0_9.length c0_9, .int .i64 a0_10] 48 (0, 0)) (by (with_reducible repeat (first | refine blk_drewN ?_ _ | refine blk_drew ?_ | refine blk_alloc ?_ _)); exact BK119.out)) : gb120 ≠ gb119)); clear BK119; clear HB; have BK119 := n0_; have HB := n1_; have BK120 := n2_; have GW120 := n3_; have GE120 := n4_; have NB119_120 := n5_; have NB120_119 := n6_; clear n0_ n1_ n2_ n3_ n4_ n5_ n6_; clear hb hbox hg; have hnb9 := NB119_120.out; have hnc9 := NB120_119.out; have hcz10_0 : w8.cell? ⟨gb119, 0, none⟩ = some (.int .u32 a0_0) := (blk_cell BK119.out 0).trans rfl; have hcz10_1 : w8.cell? ⟨gb119, 1, none⟩ = some (.int .i64 a0_1) := (blk_cell BK119.out 1).trans rfl; have hcz10_2 : w8.cell? ⟨gb119, 2, none⟩ = some (.int .i64 a0_2) := (blk_cell BK119.out 2).trans rfl; have hcz10_3 : w8.cell? ⟨gb119, 3, none⟩ = some (.int .i64 a0_3) := (blk_cell BK119.out 3).trans rfl; have hcz10_4 : w8.cell? ⟨gb119, 4, none⟩ = some (.slice A0_4 l0_4.length c0_4) := (blk_cell BK119.out 4).trans rfl; have hcz10_5 : w8.cell? ⟨gb119, 5, none⟩ = some (.int .u32 a0_5) := (blk_cell BK119.out 5).trans rfl; have hcz10_6 : w8.cell? ⟨gb119, 6, none⟩ = some (.int .i64 a0_6) := (blk_cell BK119.out 6).trans rfl; have hcz10_7 : w8.cell? ⟨gb119, 7, none⟩ = some (.int .i64 a0_7) := (blk_cell BK119.out 7).trans rfl; have hcz10_8 : w8.cell? ⟨gb119, 8, none⟩ = some (.slice A0_8 l0_8.length c0_8) := (blk_cell BK119.out 8).trans rfl; have hcz10_9 : w8.cell? ⟨gb119, 9, none⟩ = some (.slice A0_9 l0_9.length c0_9) := (blk_cell BK119.out 9).trans rfl; have hcz10_10 : w8.cell? ⟨gb119, 10, none⟩ = some (.int .i64 a0_10) := (blk_cell BK119.out 10).trans rfl; have hfz10_0 := blk_frozen BK119.out 0; have hfz10_1 := blk_frozen BK119.out 1; have hfz10_2 := blk_frozen BK119.out 2; have hfz10_3 := blk_frozen BK119.out 3; have hfz10_4 := blk_frozen BK119.out 4; have hfz10_5 := blk_frozen BK119.out 5; have hfz10_6 := blk_frozen BK119.out 6; have hfz10_7 := blk_frozen BK119.out 7; have hfz10_8 := blk_frozen BK119.out 8; have hfz10_9 := blk_frozen BK119.out 9; have hfz10_10 := blk_frozen BK119.out 10; have hcz11_0 : w8.cell? ⟨gb120, 0, none⟩ = some (.int .u32 a1_0) := (blk_cell BK120.out 0).trans rfl; have hcz11_1 : w8.cell? ⟨gb120, 1, none⟩ = some (.int .i64 a1_1) := (blk_cell BK120.out 1).trans rfl; have hcz11_2 : w8.cell? ⟨gb120, 2, none⟩ = some (.int .i64 a1_2) := (blk_cell BK120.out 2).trans rfl; have hcz11_3 : w8.cell? ⟨gb120, 3, none⟩ = some (.int .i64 a1_3) := (blk_cell BK120.out 3).trans rfl; have hcz11_4 : w8.cell? ⟨gb120, 4, none⟩ = some (.slice A1_4 l1_4.length c1_4) := (blk_cell BK120.out 4).trans rfl; have hcz11_5 : w8.cell? ⟨gb120, 5, none⟩ = some (.int .u32 a1_5) := (blk_cell BK120.out 5).trans rfl; have hcz11_6 : w8.cell? ⟨gb120, 6, none⟩ = some (.int .i64 a1_6) := (blk_cell BK120.out 6).trans rfl; have hcz11_7 : w8.cell? ⟨gb120, 7, none⟩ = some (.int .i64 a1_7) := (blk_cell BK120.out 7).trans rfl; have hcz11_8 : w8.cell? ⟨gb120, 8, none⟩ = some (.slice A1_8 l1_8.length c1_8) := (blk_cell BK120.out 8).trans rfl; have hcz11_9 : w8.cell? ⟨gb120, 9, none⟩ = some (.slice A1_9 l1_9.length c1_9) := (blk_cell BK120.out 9).trans rfl; have hcz11_10 : w8.cell? ⟨gb120, 10, none⟩ = some (.int .i64 a1_10) := (blk_cell BK120.out 10).trans rfl; have hfz11_0 := blk_frozen BK120.out 0; have hfz11_1 := blk_frozen BK120.out 1; have hfz11_2 := blk_frozen BK120.out 2; have hfz11_3 := blk_frozen BK120.out 3; have hfz11_4 := blk_frozen BK120.out 4; have hfz11_5 := blk_frozen BK120.out 5; have hfz11_6 := blk_frozen BK120.out 6; have hfz11_7 := blk_frozen BK120.out 7; have hfz11_8 := blk_frozen BK120.out 8; have hfz11_9 := blk_frozen BK120.out 9; have hfz11_10 := blk_frozen BK120.out 10) | (go_at_call 52; (with_reducible refine (attr_Same.calls a0_3 _ _ l0_4 a0_5 a0_6 a0_7 _ _ l0_8 _ _ l0_9 a1_3 _ _ l1_4 a1_5 a1_6 a1_7 _ _ l1_8 _ _ l1_9 t121 _ ?side1 ?side2 ?side3 ?side4 ?side5 ?side6 ?side7 ?side8 ?side9 ?side10 ?side11 ?side12 A6.out).mono ?_); (case side1 => repeat (first | exact (Kd.C_below HR0_4.out HB.out) | (with_reducible refine Kd.C_alloc ?_ _) | (with_reducible refine Kd.C_drewN ?_ _) | (with_reducible refine Kd.C_drew ?_))); (case side2 => exact HC0_4.out); (case side3 => repeat (first | exact (Kd.C_below HR0_8.out HB.out) | (with_reducible refine Kd.C_alloc ?_ _) | (with_reducible refine Kd.C_drewN ?_ _) | (with_reducible refine Kd.C_drew ?_))); (case side4 => exact HC0_8.out); (case side5 => repeat (first | exact (Kd.C_below HR0_9.out HB.out) | (with_reducible refine Kd.C_alloc ?_ _) | (with_reducible refine Kd.C_drewN ?_ _) | (with_reducible refine Kd.C_drew ?_))); (case side6 => exact HC0_9.out); (case side7 => repeat (first | exact (Kd.C_below HR1_4.out HB.out) | (with_reducible refine Kd.C_alloc ?_ _) | (with_reducible refine Kd.C_drewN ?_ _) | (with_reducible refine Kd.C_drew ?_))); (case side8 => exact HC1_4.out); (case side9 => repeat (first | exact (Kd.C_below HR1_8.out HB.out) | (with_reducible refine Kd.C_alloc ?_ _) | (with_reducible refine Kd.C_drewN ?_ _) | (with_reducible refine Kd.C_drew ?_))); (case side10 => exact HC1_8.out); (case side11 => repeat (first | exact (Kd.C_below HR1_9.out HB.out) | (with_reducible refine Kd.C_alloc ?_ _) | (with_reducible refine Kd.C_drewN ?_ _) | (with_reducible refine Kd.C_drew ?_))); (case side12 => exact HC1_9.out); rintro e w12 ⟨rfl, hb⟩; have n0_ := Aside0.mk (blk_below (g := gb119) (o := .cells #[.int .u32 a0_0, .int .i64 a0_1, .int .i64 a0_2, .int .i64 a0_3, .slice A0_4 l0_4.length c0_4, .int .u32 a0_5, .int .i64 a0_6, .int .i64 a0_7, .slice A0_8 l0_8.length c0_8, .slice A0_9 l0_9.length c0_9, .int .i64 a0_10] 48 (0, 0)) (by (with_reducible repeat (first | refine blk_drewN ?_ _ | refine blk_drew ?_ | refine blk_alloc ?_ _)); exact BK119.out) hb); have n1_ := Aside0.mk (blk_below (g := gb120) (o := .cells #[.int .u32 a1_0, .int .i64 a1_1, .int .i64 a1_2, .int .i64 a1_3, .slice A1_4 l1_4.length c1_4, .int .u32 a1_5, .int .i64 a1_6, .int .i64 a1_7, .slice A1_8 l1_8.length c1_8, .slice A1_9 l1_9.length c1_9, .int .i64 a1_10] 48 (0, 0)) (by (with_reducible repeat (first | refine blk_drewN ?_ _ | refine blk_drew ?_ | refine blk_alloc ?_ _)); exact BK120.out) hb); have n2_ := Aside0.mk (below_step (by repeat (first | (with_reducible first | exact HB.out | apply below_alloc | apply pw_below_drewN | apply below_drew1 | refine below_set ?_ GE119.out | refine below_set ?_ GE120.out) | exact HB.out)) hb); clear BK119; clear BK120; clear HB; have BK119 := n0_; have BK120 := n1_; have HB := n2_; clear n0_ n1_ n2_; (try clear hb); (try clear hb2); (try clear hk); (try clear hi)))
        go_ret
        exact ⟨by first | rfl | (simp [errW_none, errW_some] <;> rfl) | (simp [*, errW_none, errW_some] <;> rfl), by repeat (first | (with_reducible first | exact HB.out | apply below_alloc | apply pw_below_drewN | apply below_drew1 | refine below_set ?_ GE119.out | refine below_set ?_ GE120.out) | exact HB.out)⟩
      · rw [if_neg c5] at H
        have c5b0 : (a0_10 == a1_10) = false := beq_eq_false_iff_ne.mpr c5
        have c5b1 : (a0_10 != a1_10) = true := bne_iff_ne.mpr c5
        obtain rfl := Option.some.inj H
        go_enter Try.func33, Try.ntmps33
        go_wp2_with (first | ((with_reducible refine gate_dst (N := 2) rfl ?_); refine box_event ?hg (N := 2) ?hd (cs := #[.int .u32 a0_0, .int .i64 a0_1, .int .i64 a0_2, .int .i64 a0_3, .slice A0_4 l0_4.length c0_4, .int .u32 a0_5, .int .i64 a0_6, .int .i64 a0_7, .slice A0_8 l0_8.length c0_8, .slice A0_9 l0_9.length c0_9, .int .i64 a0_10]) (t := 48) ?hr ?_; (case hd => rfl); (case hg => rfl); (case hr => first | (go_simp; done) | (go_simp; rfl) | (go_simp; simp [IntKind.wrap_u8, IntKind.wrap_u32]; done)); intro gb119 hg w13 hbox hb; have n0_ := Aside0.mk (below_step (by repeat (first | (with_reducible first | exact HB.out | apply below_alloc | apply pw_below_drewN | apply below_drew1) | exact HB.out)) hb); have n1_ := Aside0.mk (hbox); have n2_ := Aside0.mk ((by rw [hg]; exact (below_size (by repeat (first | (with_reducible first | exact HB.out | apply below_alloc | apply pw_below_drewN | apply below_drew1) | exact HB.out))) : w.heap.size ≤ gb119)); have n3_ := Aside0.mk ((by rw [hg]; exact (below_size (by repeat (first | (with_reducible first | exact HB.out | apply below_alloc | apply pw_below_drewN | apply below_drew1) | exact HB.out))) : w.heap.size ≤ gb119)); clear HB; have HB := n0_; have BK119 := n1_; have GW119 := n2_; have GE119 := n3_; clear n0_ n1_ n2_ n3_; clear hb hbox hg) | ((with_reducible refine gate_dst (N := 3) rfl ?_); refine box_event ?hg (N := 3) ?hd (cs := #[.int .u32 a1_0, .int .i64 a1_1, .int .i64 a1_2, .int .i64 a1_3, .slice A1_4 l1_4.length c1_4, .int .u32 a1_5, .int .i64 a1_6, .int .i64 a1_7, .slice A1_8 l1_8.length c1_8, .slice A1_9 l1_9.length c1_9, .int .i64 a1_10]) (t := 48) ?hr ?_; (case hd => rfl); (case hg => rfl); (case hr => first | (go_simp; done) | (go_simp; rfl) | (go_simp; simp [IntKind.wrap_u8, IntKind.wrap_u32]; done)); intro gb120 hg w14 hbox hb; have n0_ := Aside0.mk (blk_below (g := gb119) (o := .cells #[.int .u32 a0_0, .int .i64 a0_1, .int .i64 a0_2, .int .i64 a0_3, .slice A0_4 l0_4.length c0_4, .int .u32 a0_5, .int .i64 a0_6, .int .i64 a0_7, .slice A0_8 l0_8.length c0_8, .slice A0_9 l0_9.length c0_9, .int .i64 a0_10] 48 (0, 0)) (by (with_reducible repeat (first | refine blk_drewN ?_ _ | refine blk_drew ?_ | refine blk_alloc ?_ _)); exact BK119.out) hb); have n1_ := Aside0.mk (below_step (by repeat (first | (with_reducible first | exact HB.out | apply below_alloc | apply pw_below_drewN | apply below_drew1 | refine below_set ?_ GE119.out) | exact HB.out)) hb); have n2_ := Aside0.mk (hbox); have n3_ := Aside0.mk ((by rw [hg]; exact (below_size (by repeat (first | (with_reducible first | exact HB.out | apply below_alloc | apply pw_below_drewN | apply below_drew1 | refine below_set ?_ GE119.out) | exact HB.out))) : w.heap.size ≤ gb120)); have n4_ := Aside0.mk ((by rw [hg]; exact (below_size (by repeat (first | (with_reducible first | exact HB.out | apply below_alloc | apply pw_below_drewN | apply below_drew1 | refine below_set ?_ GE119.out) | exact HB.out))) : w.heap.size ≤ gb120)); have n5_ := Aside0.mk ((by rw [hg]; exact Nat.ne_of_lt (blk_lt (g := gb119) (o := .cells #[.int .u32 a0_0, .int .i64 a0_1, .int .i64 a0_2, .int .i64 a0_3, .slice A0_4 l0_4.length c0_4, .int .u32 a0_5, .int .i64 a0_6, .int .i64 a0_7, .slice A0_8 l0_8.length c0_8, .slice A0_9 l0_9.length c0_9, .int .i64 a0_10] 48 (0, 0)) (by (with_reducible repeat (first | refine blk_drewN ?_ _ | refine blk_drew ?_ | refine blk_alloc ?_ _)); exact BK119.out)) : gb119 ≠ gb120)); have n6_ := Aside0.mk ((by rw [hg]; exact Nat.ne_of_gt (blk_lt (g := gb119) (o := .cells #[.int .u32 a0_0, .int .i64 a0_1, .int .i64 a0_2, .int .i64 a0_3, .slice A0_4 l0_4.length c0_4, .int .u32 a0_5, .int .i64 a0_6, .int .i64 a0_7, .slice A0_8 l0_8.length c0_8, .slice A0_9 l0_9.length c0_9, .int .i64 a0_10] 48 (0, 0)) (by (with_reducible repeat (first | refine blk_drewN ?_ _ | refine blk_drew ?_ | refine blk_alloc ?_ _)); exact BK119.out)) : gb120 ≠ gb119)); clear BK119; clear HB; have BK119 := n0_; have HB := n1_; have BK120 := n2_; have GW120 := n3_; have GE120 := n4_; have NB119_120 := n5_; have NB120_119 := n6_; clear n0_ n1_ n2_ n3_ n4_ n5_ n6_; clear hb hbox hg; have hnb15 := NB119_120.out; have hnc15 := NB120_119.out; have hcz16_0 : w14.cell? ⟨gb119, 0, none⟩ = some (.int .u32 a0_0) := (blk_cell BK119.out 0).trans rfl; have hcz16_1 : w14.cell? ⟨gb119, 1, none⟩ = some (.int .i64 a0_1) := (blk_cell BK119.out 1).trans rfl; have hcz16_2 : w14.cell? ⟨gb119, 2, none⟩ = some (.int .i64 a0_2) := (blk_cell BK119.out 2).trans rfl; have hcz16_3 : w14.cell? ⟨gb119, 3, none⟩ = some (.int .i64 a0_3) := (blk_cell BK119.out 3).trans rfl; have hcz16_4 : w14.cell? ⟨gb119, 4, none⟩ = some (.slice A0_4 l0_4.length c0_4) := (blk_cell BK119.out 4).trans rfl; have hcz16_5 : w14.cell? ⟨gb119, 5, none⟩ = some (.int .u32 a0_5) := (blk_cell BK119.out 5).trans rfl; have hcz16_6 : w14.cell? ⟨gb119, 6, none⟩ = some (.int .i64 a0_6) := (blk_cell BK119.out 6).trans rfl; have hcz16_7 : w14.cell? ⟨gb119, 7, none⟩ = some (.int .i64 a0_7) := (blk_cell BK119.out 7).trans rfl; have hcz16_8 : w14.cell? ⟨gb119, 8, none⟩ = some (.slice A0_8 l0_8.length c0_8) := (blk_cell BK119.out 8).trans rfl; have hcz16_9 : w14.cell? ⟨gb119, 9, none⟩ = some (.slice A0_9 l0_9.length c0_9) := (blk_cell BK119.out 9).trans rfl; have hcz16_10 : w14.cell? ⟨gb119, 10, none⟩ = some (.int .i64 a0_10) := (blk_cell BK119.out 10).trans rfl; have hfz16_0 := blk_frozen BK119.out 0; have hfz16_1 := blk_frozen BK119.out 1; have hfz16_2 := blk_frozen BK119.out 2; have hfz16_3 := blk_frozen BK119.out 3; have hfz16_4 := blk_frozen BK119.out 4; have hfz16_5 := blk_frozen BK119.out 5; have hfz16_6 := blk_frozen BK119.out 6; have hfz16_7 := blk_frozen BK119.out 7; have hfz16_8 := blk_frozen BK119.out 8; have hfz16_9 := blk_frozen BK119.out 9; have hfz16_10 := blk_frozen BK119.out 10; have hcz17_0 : w14.cell? ⟨gb120, 0, none⟩ = some (.int .u32 a1_0) := (blk_cell BK120.out 0).trans rfl; have hcz17_1 : w14.cell? ⟨gb120, 1, none⟩ = some (.int .i64 a1_1) := (blk_cell BK120.out 1).trans rfl; have hcz17_2 : w14.cell? ⟨gb120, 2, none⟩ = some (.int .i64 a1_2) := (blk_cell BK120.out 2).trans rfl; have hcz17_3 : w14.cell? ⟨gb120, 3, none⟩ = some (.int .i64 a1_3) := (blk_cell BK120.out 3).trans rfl; have hcz17_4 : w14.cell? ⟨gb120, 4, none⟩ = some (.slice A1_4 l1_4.length c1_4) := (blk_cell BK120.out 4).trans rfl; have hcz17_5 : w14.cell? ⟨gb120, 5, none⟩ = some (.int .u32 a1_5) := (blk_cell BK120.out 5).trans rfl; have hcz17_6 : w14.cell? ⟨gb120, 6, none⟩ = some (.int .i64 a1_6) := (blk_cell BK120.out 6).trans rfl; have hcz17_7 : w14.cell? ⟨gb120, 7, none⟩ = some (.int .i64 a1_7) := (blk_cell BK120.out 7).trans rfl; have hcz17_8 : w14.cell? ⟨gb120, 8, none⟩ = some (.slice A1_8 l1_8.length c1_8) := (blk_cell BK120.out 8).trans rfl; have hcz17_9 : w14.cell? ⟨gb120, 9, none⟩ = some (.slice A1_9 l1_9.length c1_9) := (blk_cell BK120.out 9).trans rfl; have hcz17_10 : w14.cell? ⟨gb120, 10, none⟩ = some (.int .i64 a1_10) := (blk_cell BK120.out 10).trans rfl; have hfz17_0 := blk_frozen BK120.out 0; have hfz17_1 := blk_frozen BK120.out 1; have hfz17_2 := blk_frozen BK120.out 2; have hfz17_3 := blk_frozen BK120.out 3; have hfz17_4 := blk_frozen BK120.out 4; have hfz17_5 := blk_frozen BK120.out 5; have hfz17_6 := blk_frozen BK120.out 6; have hfz17_7 := blk_frozen BK120.out 7; have hfz17_8 := blk_frozen BK120.out 8; have hfz17_9 := blk_frozen BK120.out 9; have hfz17_10 := blk_frozen BK120.out 10))
        go_ret
        exact ⟨by first | rfl | (simp [errW_none, errW_some] <;> rfl) | (simp [*, errW_none, errW_some] <;> rfl), by repeat (first | (with_reducible first | exact HB.out | apply below_alloc | apply pw_below_drewN | apply below_drew1 | refine below_set ?_ GE119.out | refine below_set ?_ GE120.out) | exact HB.out)⟩
    · rw [if_neg c4] at H
      have c4b0 : (a0_2 == a1_2) = false := beq_eq_false_iff_ne.mpr c4
      have c4b1 : (a0_2 != a1_2) = true := bne_iff_ne.mpr c4
      obtain rfl := Option.some.inj H
      go_enter Try.func33, Try.ntmps33
      go_wp2_with (first | ((with_reducible refine gate_dst (N := 2) rfl ?_); refine box_event ?hg (N := 2) ?hd (cs := #[.int .u32 a0_0, .int .i64 a0_1, .int .i64 a0_2, .int .i64 a0_3, .slice A0_4 l0_4.length c0_4, .int .u32 a0_5, .int .i64 a0_6, .int .i64 a0_7, .slice A0_8 l0_8.length c0_8, .slice A0_9 l0_9.length c0_9, .int .i64 a0_10]) (t := 48) ?hr ?_; (case hd => rfl); (case hg => rfl); (case hr => first | (go_simp; done) | (go_simp; rfl) | (go_simp; simp [IntKind.wrap_u8, IntKind.wrap_u32]; done)); intro gb119 hg w18 hbox hb; have n0_ := Aside0.mk (below_step (by repeat (first | (with_reducible first | exact HB.out | apply below_alloc | apply pw_below_drewN | apply below_drew1) | exact HB.out)) hb); have n1_ := Aside0.mk (hbox); have n2_ := Aside0.mk ((by rw [hg]; exact (below_size (by repeat (first | (with_reducible first | exact HB.out | apply below_alloc | apply pw_below_drewN | apply below_drew1) | exact HB.out))) : w.heap.size ≤ gb119)); have n3_ := Aside0.mk ((by rw [hg]; exact (below_size (by repeat (first | (with_reducible first | exact HB.out | apply below_alloc | apply pw_below_drewN | apply below_drew1) | exact HB.out))) : w.heap.size ≤ gb119)); clear HB; have HB := n0_; have BK119 := n1_; have GW119 := n2_; have GE119 := n3_; clear n0_ n1_ n2_ n3_; clear hb hbox hg) | ((with_reducible refine gate_dst (N := 3) rfl ?_); refine box_event ?hg (N := 3) ?hd (cs := #[.int .u32 a1_0, .int .i64 a1_1, .int .i64 a1_2, .int .i64 a1_3, .slice A1_4 l1_4.length c1_4, .int .u32 a1_5, .int .i64 a1_6, .int .i64 a1_7, .slice A1_8 l1_8.length c1_8, .slice A1_9 l1_9.length c1_9, .int .i64 a1_10]) (t := 48) ?hr ?_; (case hd => rfl); (case hg => rfl); (case hr => first | (go_simp; done) | (go_simp; rfl) | (go_simp; simp [IntKind.wrap_u8, IntKind.wrap_u32]; done)); intro gb120 hg w19 hbox hb; have n0_ := Aside0.mk (blk_below (g := gb119) (o := .cells #[.int .u32 a0_0, .int .i64 a0_1, .int .i64 a0_2, .int .i64 a0_3, .slice A0_4 l0_4.length c0_4, .int .u32 a0_5, .int .i64 a0_6, .int .i64 a0_7, .slice A0_8 l0_8.length c0_8, .slice A0_9 l0_9.length c0_9, .int .i64 a0_10] 48 (0, 0)) (by (with_reducible repeat (first | refine blk_drewN ?_ _ | refine blk_drew ?_ | refine blk_alloc ?_ _)); exact BK119.out) hb); have n1_ := Aside0.mk (below_step (by repeat (first | (with_reducible first | exact HB.out | apply below_alloc | apply pw_below_drewN | apply below_drew1 | refine below_set ?_ GE119.out) | exact HB.out)) hb); have n2_ := Aside0.mk (hbox); have n3_ := Aside0.mk ((by rw [hg]; exact (below_size (by repeat (first | (with_reducible first | exact HB.out | apply below_alloc | apply pw_below_drewN | apply below_drew1 | refine below_set ?_ GE119.out) | exact HB.out))) : w.heap.size ≤ gb120)); have n4_ := Aside0.mk ((by rw [hg]; exact (below_size (by repeat (first | (with_reducible first | exact HB.out | apply below_alloc | apply pw_below_drewN | apply below_drew1 | refine below_set ?_ GE119.out) | exact HB.out))) : w.heap.size ≤ gb120)); have n5_ := Aside0.mk ((by rw [hg]; exact Nat.ne_of_lt (blk_lt (g := gb119) (o := .cells #[.int .u32 a0_0, .int .i64 a0_1, .int .i64 a0_2, .int .i64 a0_3, .slice A0_4 l0_4.length c0_4, .int .u32 a0_5, .int .i64 a0_6, .int .i64 a0_7, .slice A0_8 l0_8.length c0_8, .slice A0_9 l0_9.length c0_9, .int .i64 a0_10] 48 (0, 0)) (by (with_reducible repeat (first | refine blk_drewN ?_ _ | refine blk_drew ?_ | refine blk_alloc ?_ _)); exact BK119.out)) : gb119 ≠ gb120)); have n6_ := Aside0.mk ((by rw [hg]; exact Nat.ne_of_gt (blk_lt (g := gb119) (o := .cells #[.int .u32 a0_0, .int .i64 a0_1, .int .i64 a0_2, .int .i64 a0_3, .slice A0_4 l0_4.length c0_4, .int .u32 a0_5, .int .i64 a0_6, .int .i64 a0_7, .slice A0_8 l0_8.length c0_8, .slice A0_9 l0_9.length c0_9, .int .i64 a0_10] 48 (0, 0)) (by (with_reducible repeat (first | refine blk_drewN ?_ _ | refine blk_drew ?_ | refine blk_alloc ?_ _)); exact BK119.out)) : gb120 ≠ gb119)); clear BK119; clear HB; have BK119 := n0_; have HB := n1_; have BK120 := n2_; have GW120 := n3_; have GE120 := n4_; have NB119_120 := n5_; have NB120_119 := n6_; clear n0_ n1_ n2_ n3_ n4_ n5_ n6_; clear hb hbox hg; have hnb20 := NB119_120.out; have hnc20 := NB120_119.out; have hcz21_0 : w19.cell? ⟨gb119, 0, none⟩ = some (.int .u32 a0_0) := (blk_cell BK119.out 0).trans rfl; have hcz21_1 : w19.cell? ⟨gb119, 1, none⟩ = some (.int .i64 a0_1) := (blk_cell BK119.out 1).trans rfl; have hcz21_2 : w19.cell? ⟨gb119, 2, none⟩ = some (.int .i64 a0_2) := (blk_cell BK119.out 2).trans rfl; have hcz21_3 : w19.cell? ⟨gb119, 3, none⟩ = some (.int .i64 a0_3) := (blk_cell BK119.out 3).trans rfl; have hcz21_4 : w19.cell? ⟨gb119, 4, none⟩ = some (.slice A0_4 l0_4.length c0_4) := (blk_cell BK119.out 4).trans rfl; have hcz21_5 : w19.cell? ⟨gb119, 5, none⟩ = some (.int .u32 a0_5) := (blk_cell BK119.out 5).trans rfl; have hcz21_6 : w19.cell? ⟨gb119, 6, none⟩ = some (.int .i64 a0_6) := (blk_cell BK119.out 6).trans rfl; have hcz21_7 : w19.cell? ⟨gb119, 7, none⟩ = some (.int .i64 a0_7) := (blk_cell BK119.out 7).trans rfl; have hcz21_8 : w19.cell? ⟨gb119, 8, none⟩ = some (.slice A0_8 l0_8.length c0_8) := (blk_cell BK119.out 8).trans rfl; have hcz21_9 : w19.cell? ⟨gb119, 9, none⟩ = some (.slice A0_9 l0_9.length c0_9) := (blk_cell BK119.out 9).trans rfl; have hcz21_10 : w19.cell? ⟨gb119, 10, none⟩ = some (.int .i64 a0_10) := (blk_cell BK119.out 10).trans rfl; have hfz21_0 := blk_frozen BK119.out 0; have hfz21_1 := blk_frozen BK119.out 1; have hfz21_2 := blk_frozen BK119.out 2; have hfz21_3 := blk_frozen BK119.out 3; have hfz21_4 := blk_frozen BK119.out 4; have hfz21_5 := blk_frozen BK119.out 5; have hfz21_6 := blk_frozen BK119.out 6; have hfz21_7 := blk_frozen BK119.out 7; have hfz21_8 := blk_frozen BK119.out 8; have hfz21_9 := blk_frozen BK119.out 9; have hfz21_10 := blk_frozen BK119.out 10; have hcz22_0 : w19.cell? ⟨gb120, 0, none⟩ = some (.int .u32 a1_0) := (blk_cell BK120.out 0).trans rfl; have hcz22_1 : w19.cell? ⟨gb120, 1, none⟩ = some (.int .i64 a1_1) := (blk_cell BK120.out 1).trans rfl; have hcz22_2 : w19.cell? ⟨gb120, 2, none⟩ = some (.int .i64 a1_2) := (blk_cell BK120.out 2).trans rfl; have hcz22_3 : w19.cell? ⟨gb120, 3, none⟩ = some (.int .i64 a1_3) := (blk_cell BK120.out 3).trans rfl; have hcz22_4 : w19.cell? ⟨gb120, 4, none⟩ = some (.slice A1_4 l1_4.length c1_4) := (blk_cell BK120.out 4).trans rfl; have hcz22_5 : w19.cell? ⟨gb120, 5, none⟩ = some (.int .u32 a1_5) := (blk_cell BK120.out 5).trans rfl; have hcz22_6 : w19.cell? ⟨gb120, 6, none⟩ = some (.int .i64 a1_6) := (blk_cell BK120.out 6).trans rfl; have hcz22_7 : w19.cell? ⟨gb120, 7, none⟩ = some (.int .i64 a1_7) := (blk_cell BK120.out 7).trans rfl; have hcz22_8 : w19.cell? ⟨gb120, 8, none⟩ = some (.slice A1_8 l1_8.length c1_8) := (blk_cell BK120.out 8).trans rfl; have hcz22_9 : w19.cell? ⟨gb120, 9, none⟩ = some (.slice A1_9 l1_9.length c1_9) := (blk_cell BK120.out 9).trans rfl; have hcz22_10 : w19.cell? ⟨gb120, 10, none⟩ = some (.int .i64 a1_10) := (blk_cell BK120.out 10).trans rfl; have hfz22_0 := blk_frozen BK120.out 0; have hfz22_1 := blk_frozen BK120.out 1; have hfz22_2 := blk_frozen BK120.out 2; have hfz22_3 := blk_frozen BK120.out 3; have hfz22_4 := blk_frozen BK120.out 4; have hfz22_5 := blk_frozen BK120.out 5; have hfz22_6 := blk_frozen BK120.out 6; have hfz22_7 := blk_frozen BK120.out 7; have hfz22_8 := blk_frozen BK120.out 8; have hfz22_9 := blk_frozen BK120.out 9; have hfz22_10 := blk_frozen BK120.out 10))
      go_ret
      exact ⟨by first | rfl | (simp [errW_none, errW_some] <;> rfl) | (simp [*, errW_none, errW_some] <;> rfl), by repeat (first | (with_reducible first | exact HB.out | apply below_alloc | apply pw_below_drewN | apply below_drew1 | refine below_set ?_ GE119.out | refine below_set ?_ GE120.out) | exact HB.out)⟩
  · rw [if_neg c3] at H
    have c3b0 : (a0_0 == a1_0 && (a0_1 == a1_1)) = false := by simpa using c3
    (try (have c3b1 : decide (a0_0 = a1_0 && (a0_1 == a1_1)) = false := by simpa using c3))
    (try (have c3b2 : (a0_0 == a1_0 && (a0_1 == a1_1)) = false := by simpa using c3))
    (try (have c3b3 : ¬ (a0_0 = a1_0 && (a0_1 == a1_1)) := by simpa using c3))
    clear c3
    obtain rfl := Option.some.inj H
    go_enter Try.func33, Try.ntmps33
    go_wp2_with (first | ((with_reducible refine gate_dst (N := 2) rfl ?_); refine box_event ?hg (N := 2) ?hd (cs := #[.int .u32 a0_0, .int .i64 a0_1, .int .i64 a0_2, .int .i64 a0_3, .slice A0_4 l0_4.length c0_4, .int .u32 a0_5, .int .i64 a0_6, .int .i64 a0_7, .slice A0_8 l0_8.length c0_8, .slice A0_9 l0_9.length c0_9, .int .i64 a0_10]) (t := 48) ?hr ?_; (case hd => rfl); (case hg => rfl); (case hr => first | (go_simp; done) | (go_simp; rfl) | (go_simp; simp [IntKind.wrap_u8, IntKind.wrap_u32]; done)); intro gb119 hg w23 hbox hb; have n0_ := Aside0.mk (below_step (by repeat (first | (with_reducible first | exact HB.out | apply below_alloc | apply pw_below_drewN | apply below_drew1) | exact HB.out)) hb); have n1_ := Aside0.mk (hbox); have n2_ := Aside0.mk ((by rw [hg]; exact (below_size (by repeat (first | (with_reducible first | exact HB.out | apply below_alloc | apply pw_below_drewN | apply below_drew1) | exact HB.out))) : w.heap.size ≤ gb119)); have n3_ := Aside0.mk ((by rw [hg]; exact (below_size (by repeat (first | (with_reducible first | exact HB.out | apply below_alloc | apply pw_below_drewN | apply below_drew1) | exact HB.out))) : w.heap.size ≤ gb119)); clear HB; have HB := n0_; have BK119 := n1_; have GW119 := n2_; have GE119 := n3_; clear n0_ n1_ n2_ n3_; clear hb hbox hg) | ((with_reducible refine gate_dst (N := 3) rfl ?_); refine box_event ?hg (N := 3) ?hd (cs := #[.int .u32 a1_0, .int .i64 a1_1, .int .i64 a1_2, .int .i64 a1_3, .slice A1_4 l1_4.length c1_4, .int .u32 a1_5, .int .i64 a1_6, .int .i64 a1_7, .slice A1_8 l1_8.length c1_8, .slice A1_9 l1_9.length c1_9, .int .i64 a1_10]) (t := 48) ?hr ?_; (case hd => rfl); (case hg => rfl); (case hr => first | (go_simp; done) | (go_simp; rfl) | (go_simp; simp [IntKind.wrap_u8, IntKind.wrap_u32]; done)); intro gb120 hg w24 hbox hb; have n0_ := Aside0.mk (blk_below (g := gb119) (o := .cells #[.int .u32 a0_0, .int .i64 a0_1, .int .i64 a0_2, .int .i64 a0_3, .slice A0_4 l0_4.length c0_4, .int .u32 a0_5, .int .i64 a0_6, .int .i64 a0_7, .slice A0_8 l0_8.length c0_8, .slice A0_9 l0_9.length c0_9, .int .i64 a0_10] 48 (0, 0)) (by (with_reducible repeat (first | refine blk_drewN ?_ _ | refine blk_drew ?_ | refine blk_alloc ?_ _)); exact BK119.out) hb); have n1_ := Aside0.mk (below_step (by repeat (first | (with_reducible first | exact HB.out | apply below_alloc | apply pw_below_drewN | apply below_drew1 | refine below_set ?_ GE119.out) | exact HB.out)) hb); have n2_ := Aside0.mk (hbox); have n3_ := Aside0.mk ((by rw [hg]; exact (below_size (by repeat (first | (with_reducible first | exact HB.out | apply below_alloc | apply pw_below_drewN | apply below_drew1 | refine below_set ?_ GE119.out) | exact HB.out))) : w.heap.size ≤ gb120)); have n4_ := Aside0.mk ((by rw [hg]; exact (below_size (by repeat (first | (with_reducible first | exact HB.out | apply below_alloc | apply pw_below_drewN | apply below_drew1 | refine below_set ?_ GE119.out) | exact HB.out))) : w.heap.size ≤ gb120)); have n5_ := Aside0.mk ((by rw [hg]; exact Nat.ne_of_lt (blk_lt (g := gb119) (o := .cells #[.int .u32 a0_0, .int .i64 a0_1, .int .i64 a0_2, .int .i64 a0_3, .slice A0_4 l0_4.length c0_4, .int .u32 a0_5, .int .i64 a0_6, .int .i64 a0_7, .slice A0_8 l0_8.length c0_8, .slice A0_9 l0_9.length c0_9, .int .i64 a0_10] 48 (0, 0)) (by (with_reducible repeat (first | refine blk_drewN ?_ _ | refine blk_drew ?_ | refine blk_alloc ?_ _)); exact BK119.out)) : gb119 ≠ gb120)); have n6_ := Aside0.mk ((by rw [hg]; exact Nat.ne_of_gt (blk_lt (g := gb119) (o := .cells #[.int .u32 a0_0, .int .i64 a0_1, .int .i64 a0_2, .int .i64 a0_3, .slice A0_4 l0_4.length c0_4, .int .u32 a0_5, .int .i64 a0_6, .int .i64 a0_7, .slice A0_8 l0_8.length c0_8, .slice A0_9 l0_9.length c0_9, .int .i64 a0_10] 48 (0, 0)) (by (with_reducible repeat (first | refine blk_drewN ?_ _ | refine blk_drew ?_ | refine blk_alloc ?_ _)); exact BK119.out)) : gb120 ≠ gb119)); clear BK119; clear HB; have BK119 := n0_; have HB := n1_; have BK120 := n2_; have GW120 := n3_; have GE120 := n4_; have NB119_120 := n5_; have NB120_119 := n6_; clear n0_ n1_ n2_ n3_ n4_ n5_ n6_; clear hb hbox hg; have hnb25 := NB119_120.out; have hnc25 := NB120_119.out; have hcz26_0 : w24.cell? ⟨gb119, 0, none⟩ = some (.int .u32 a0_0) := (blk_cell BK119.out 0).trans rfl; have hcz26_1 : w24.cell? ⟨gb119, 1, none⟩ = some (.int .i64 a0_1) := (blk_cell BK119.out 1).trans rfl; have hcz26_2 : w24.cell? ⟨gb119, 2, none⟩ = some (.int .i64 a0_2) := (blk_cell BK119.out 2).trans rfl; have hcz26_3 : w24.cell? ⟨gb119, 3, none⟩ = some (.int .i64 a0_3) := (blk_cell BK119.out 3).trans rfl; have hcz26_4 : w24.cell? ⟨gb119, 4, none⟩ = some (.slice A0_4 l0_4.length c0_4) := (blk_cell BK119.out 4).trans rfl; have hcz26_5 : w24.cell? ⟨gb119, 5, none⟩ = some (.int .u32 a0_5) := (blk_cell BK119.out 5).trans rfl; have hcz26_6 : w24.cell? ⟨gb119, 6, none⟩ = some (.int .i64 a0_6) := (blk_cell BK119.out 6).trans rfl; have hcz26_7 : w24.cell? ⟨gb119, 7, none⟩ = some (.int .i64 a0_7) := (blk_cell BK119.out 7).trans rfl; have hcz26_8 : w24.cell? ⟨gb119, 8, none⟩ = some (.slice A0_8 l0_8.length c0_8) := (blk_cell BK119.out 8).trans rfl; have hcz26_9 : w24.cell? ⟨gb119, 9, none⟩ = some (.slice A0_9 l0_9.length c0_9) := (blk_cell BK119.out 9).trans rfl; have hcz26_10 : w24.cell? ⟨gb119, 10, none⟩ = some (.int .i64 a0_10) := (blk_cell BK119.out 10).trans rfl; have hfz26_0 := blk_frozen BK119.out 0; have hfz26_1 := blk_frozen BK119.out 1; have hfz26_2 := blk_frozen BK119.out 2; have hfz26_3 := blk_frozen BK119.out 3; have hfz26_4 := blk_frozen BK119.out 4; have hfz26_5 := blk_frozen BK119.out 5; have hfz26_6 := blk_frozen BK119.out 6; have hfz26_7 := blk_frozen BK119.out 7; have hfz26_8 := blk_frozen BK119.out 8; have hfz26_9 := blk_frozen BK119.out 9; have hfz26_10 := blk_frozen BK119.out 10; have hcz27_0 : w24.cell? ⟨gb120, 0, none⟩ = some (.int .u32 a1_0) := (blk_cell BK120.out 0).trans rfl; have hcz27_1 : w24.cell? ⟨gb120, 1, none⟩ = some (.int .i64 a1_1) := (blk_cell BK120.out 1).trans rfl; have hcz27_2 : w24.cell? ⟨gb120, 2, none⟩ = some (.int .i64 a1_2) := (blk_cell BK120.out 2).trans rfl; have hcz27_3 : w24.cell? ⟨gb120, 3, none⟩ = some (.int .i64 a1_3) := (blk_cell BK120.out 3).trans rfl; have hcz27_4 : w24.cell? ⟨gb120, 4, none⟩ = some (.slice A1_4 l1_4.length c1_4) := (blk_cell BK120.out 4).trans rfl; have hcz27_5 : w24.cell? ⟨gb120, 5, none⟩ = some (.int .u32 a1_5) := (blk_cell BK120.out 5).trans rfl; have hcz27_6 : w24.cell? ⟨gb120, 6, none⟩ = some (.int .i64 a1_6) := (blk_cell BK120.out 6).trans rfl; have hcz27_7 : w24.cell? ⟨gb120, 7, none⟩ = some (.int .i64 a1_7) := (blk_cell BK120.out 7).trans rfl; have hcz27_8 : w24.cell? ⟨gb120, 8, none⟩ = some (.slice A1_8 l1_8.length c1_8) := (blk_cell BK120.out 8).trans rfl; have hcz27_9 : w24.cell? ⟨gb120, 9, none⟩ = some (.slice A1_9 l1_9.length c1_9) := (blk_cell BK120.out 9).trans rfl; have hcz27_10 : w24.cell? ⟨gb120, 10, none⟩ = some (.int .i64 a1_10) := (blk_cell BK120.out 10).trans rfl; have hfz27_0 := blk_frozen BK120.out 0; have hfz27_1 := blk_frozen BK120.out 1; have hfz27_2 := blk_frozen BK120.out 2; have hfz27_3 := blk_frozen BK120.out 3; have hfz27_4 := blk_frozen BK120.out 4; have hfz27_5 := blk_frozen BK120.out 5; have hfz27_6 := blk_frozen BK120.out 6; have hfz27_7 := blk_frozen BK120.out 7; have hfz27_8 := blk_frozen BK120.out 8; have hfz27_9 := blk_frozen BK120.out 9; have hfz27_10 := blk_frozen BK120.out 10))
    go_ret
    exact ⟨by first | rfl | (simp [errW_none, errW_some] <;> rfl) | (simp [*, errW_none, errW_some] <;> rfl), by repeat (first | (with_reducible first | exact HB.out | apply below_alloc | apply pw_below_drewN | apply below_drew1 | refine below_set ?_ GE119.out | refine below_set ?_ GE120.out) | exact HB.out)⟩

-- NOT PRINTED: function 57 (slices_IndexFunc_api_Segment_api_Segment)

-- NOT PRINTED: function 48 (slices_ContainsFunc_api_Segment_api_Segment)

/-! ### slices_Index_int_int: function 58 -/
def slices_Index_int_int.l0 : Nat → List Int → Int → Int → Int → Option (Int)
  | 0, _, _, _, _ => none
  | k + 1, x0, x1, x7, x8 => if x8 < x7 then (if 0 ≤ x8 then (if x8 < (x0.length : Int) then (if x1 = (rd x0 x8) then (some x8) else (slices_Index_int_int.l0 k x0 x1 x7 (wrap64 (x8 + 1)))) else (none)) else (none)) else (some (-1))
def slices_Index_int_int.f (k : Nat) (l0 : List Int) (a1 : Int) : Option (Int) := slices_Index_int_int.l0 k l0 a1 (l0.length : Int) 0
theorem slices_Index_int_int.mono_l : ∀ k, (∀ y0 y1 y2 y3, LeO (slices_Index_int_int.l0 k y0 y1 y2 y3) (slices_Index_int_int.l0 (k + 1) y0 y1 y2 y3))
  | 0 => fun _ _ _ _ r h => by simp [slices_Index_int_int.l0] at h
  | k + 1 => by
    have ih0 := slices_Index_int_int.mono_l k
    · intro y0 y1 y2 y3
      unfold slices_Index_int_int.l0
      repeat' first
      | (with_reducible exact ih0 _ _ _ _)
      | (with_reducible exact LeO.refl _)
      | (with_reducible exact LeO.none _)
      | (with_reducible refine LeO.ite ?_ ?_)
      | (with_reducible refine LeO.bind ?_ (fun _ => ?_))
      | exact ih0 _ _ _ _
      | exact LeO.none _
      | refine LeO.ite ?_ ?_
      | refine LeO.bind ?_ (fun _ => ?_)
theorem slices_Index_int_int.mono : ∀ a0 a1 k, LeO (slices_Index_int_int.f k a0 a1) (slices_Index_int_int.f (k + 1) a0 a1) := by
  intro a0 a1 k
  have ih0 := slices_Index_int_int.mono_l k
  unfold slices_Index_int_int.f
  repeat' first
      | (with_reducible exact ih0 _ _ _ _)
      | (with_reducible exact LeO.refl _)
      | (with_reducible exact LeO.none _)
      | (with_reducible refine LeO.ite ?_ ?_)
      | (with_reducible refine LeO.bind ?_ (fun _ => ?_))
      | exact ih0 _ _ _ _
      | exact LeO.none _
      | refine LeO.ite ?_ ?_
      | refine LeO.bind ?_ (fun _ => ?_)
set_option maxHeartbeats 8000000 in
set_option maxRecDepth 100000 in
theorem slices_Index_int_int.calls (k : Nat) (A0 : Option Addr) (c0 : Nat) (l0 : List Int) (a1 : Int) (r : Int) (w : World) (hr0 : Kd.C (Kd.int .i64) w A0 l0.length l0) (hc0 : l0.length ≤ c0) (h : slices_Index_int_int.f k l0 a1 = some r) :
    Calls Try.prog 58 #[.slice A0 l0.length c0, .int .i64 a1] w fun e w' => e = .returned (.int .i64 r) ∧ Drawn0 w w' := by
  have HR0 := Aside0.mk hr0
  have HC0 := Aside0.mk hc0
  clear hr0 hc0
  have H : (slices_Index_int_int.l0 k l0 a1 (l0.length : Int) 0) = some r := h
  clear h
  have H' := Aside0.mk H
  clear H
  go_enter Try.func58, Try.ntmps58
  go_wp2
  go_loopg [8] k (fun kq v8 w' => ∃ (x8_1 : Int), v8 = .int .i64 x8_1 ∧ Aside0 (slices_Index_int_int.l0 kq l0 a1 (l0.length : Int) x8_1 = some r) ∧ Aside0 (kq ≤ k) ∧ Drawn0 w w')
  case atStart => exact ⟨(0), (by first | rfl | (simp; done) | (simp [*]; done)), H', ⟨Nat.le_refl _⟩, by repeat (first | exact Drawn0.refl _ | apply Drawn0.step)⟩
  case round =>
    clear H'
    try clear p2
    obtain ⟨x8_1, rfl, HA, HK1, ⟨m1, rfl⟩⟩ := hrel
    cases gk with
    | zero => exact absurd HA.out (by simp [slices_Index_int_int.l0])
    | succ k1 =>
      have H := HA.out
      clear HA
      simp only [slices_Index_int_int.l0] at H
      by_cases c3 : x8_1 < (l0.length : Int)
      · rw [if_pos c3] at H
        have c3b0 : decide (x8_1 < (l0.length : Int)) = true := decide_eq_true c3
        clear c3
        by_cases c4 : 0 ≤ x8_1
        · rw [if_pos c4] at H
          have c4b0 : decide (0 ≤ x8_1) = true := decide_eq_true c4
          clear c4
          by_cases c5 : x8_1 < (l0.length : Int)
          · rw [if_pos c5] at H
            have c5b0 : decide (x8_1 < (l0.length : Int)) = true := decide_eq_true c5
            clear c5
            by_cases c6 : a1 = (rd l0 x8_1)
            · rw [if_pos c6] at H
              have c6b0 : (a1 == (rd l0 x8_1)) = true := beq_iff_eq.mpr c6
              have c6b1 : (a1 != (rd l0 x8_1)) = false := bne_eq_false_iff_eq.mpr c6
              clear c6
              obtain rfl := Option.some.inj H
              have p122 : 0 ≤ (x8_1 : Int) := of_decide_eq_true (by first | (with_reducible assumption) | assumption)
              have q122 : x8_1 < (l0.length : Int) := of_decide_eq_true (by first | (with_reducible assumption) | assumption)
              obtain ⟨ad122, e122, hx122_0⟩ := Kd.at_int HR0.out x8_1 p122 q122
              cases e122
              replace p122 := eq_true p122
              replace q122 := eq_true q122
              go_wp2
              go_ret
              exact ⟨by first | rfl | (simp; done) | (simp [*]; done), by repeat (first | exact Drawn0.refl _ | apply Drawn0.step)⟩
            · rw [if_neg c6] at H
              have c6b0 : (a1 == (rd l0 x8_1)) = false := beq_eq_false_iff_ne.mpr c6
              have c6b1 : (a1 != (rd l0 x8_1)) = true := bne_iff_ne.mpr c6
              have H' := Aside0.mk H
              clear H
              have p122 : 0 ≤ (x8_1 : Int) := of_decide_eq_true (by first | (with_reducible assumption) | assumption)
              have q122 : x8_1 < (l0.length : Int) := of_decide_eq_true (by first | (with_reducible assumption) | assumption)
              obtain ⟨ad122, e122, hx122_0⟩ := Kd.at_int HR0.out x8_1 p122 q122
              cases e122
              replace p122 := eq_true p122
              replace q122 := eq_true q122
              go_wp2
              go_roundg k1
              case measure => have := HK1.out; omega
              case rel => exact ⟨(wrap64 (x8_1 + 1)), (by first | rfl | (simp; done) | (simp [*]; done)), H', ⟨by have := HK1.out; omega⟩, by repeat (first | exact Drawn0.refl _ | apply Drawn0.step)⟩
          · rw [if_neg c5] at H
            exact absurd H (by simp)
        · rw [if_neg c4] at H
          exact absurd H (by simp)
      · rw [if_neg c3] at H
        have c3b0 : decide (x8_1 < (l0.length : Int)) = false := decide_eq_false c3
        clear c3
        obtain rfl := Option.some.inj H
        go_wp2
        go_ret
        exact ⟨by first | rfl | (simp; done) | (simp [*]; done), by repeat (first | exact Drawn0.refl _ | apply Drawn0.step)⟩

/-! ### slices_Contains_int_int: function 50 -/
def slices_Contains_int_int.f (k : Nat) (l0 : List Int) (a1 : Int) : Option (Bool) := (slices_Index_int_int.f k l0 a1).bind fun t123 => (some (decide (t123 ≥ 0)))
theorem slices_Contains_int_int.mono : ∀ a0 a1 k, LeO (slices_Contains_int_int.f k a0 a1) (slices_Contains_int_int.f (k + 1) a0 a1) := by
  intro a0 a1 k
  unfold slices_Contains_int_int.f
  repeat' first
      | (with_reducible exact slices_Index_int_int.mono _ _ _)
      | (with_reducible exact LeO.refl _)
      | (with_reducible exact LeO.none _)
      | (with_reducible refine LeO.ite ?_ ?_)
      | (with_reducible refine LeO.bind ?_ (fun _ => ?_))
      | exact slices_Index_int_int.mono _ _ _
      | exact LeO.none _
      | refine LeO.ite ?_ ?_
      | refine LeO.bind ?_ (fun _ => ?_)
set_option maxHeartbeats 8000000 in
set_option maxRecDepth 100000 in
theorem slices_Contains_int_int.calls (k : Nat) (A0 : Option Addr) (c0 : Nat) (l0 : List Int) (a1 : Int) (r : Bool) (w : World) (hr0 : Kd.C (Kd.int .i64) w A0 l0.length l0) (hc0 : l0.length ≤ c0) (h : slices_Contains_int_int.f k l0 a1 = some r) :
    Calls Try.prog 50 #[.slice A0 l0.length c0, .int .i64 a1] w fun e w' => e = .returned (.bool r) ∧ Drawn0 w w' := by
  have HR0 := Aside0.mk hr0
  have HC0 := Aside0.mk hc0
  clear hr0 hc0
  have H : ((slices_Index_int_int.f k l0 a1).bind fun t123 => (some (decide (t123 ≥ 0)))) = some r := h
  clear h
  replace H := Option.bind_eq_some_iff.mp H
  obtain ⟨t123, A30, H⟩ := H
  replace H : (some (decide (t123 ≥ 0))) = some r := H
  have A3 := Aside0.mk A30
  clear A30
  obtain rfl := Option.some.inj H
  go_enter Try.func50, Try.ntmps50
  go_wp2_with (first | ((with_reducible refine gate_callee (f := 58) rfl ?_); refine goesL_ (some 7) rfl rfl Try.func58 (by kernel_rfl) rfl #[.slice A0 l0.length c0, .int .i64 a1] rfl (by (try simp only [List.map_toArray, List.map_cons, List.map_nil]); first | done | rfl | (simp only [List.length_drop, List.length_take]; rfl)) ?_; (with_reducible refine (slices_Index_int_int.calls k _ _ l0 a1 t123 _ ?side1 ?side2 A3.out).mono ?_); (case side1 => repeat (first | exact HR0.out | (with_reducible refine Kd.C_alloc ?_ _) | (with_reducible refine Kd.C_drewN ?_ _) | (with_reducible refine Kd.C_drew ?_))); (case side2 => exact HC0.out); rintro e w' ⟨rfl, ⟨nd, rfl⟩⟩; refine ⟨_, rfl, ?_⟩))
  go_ret
  exact ⟨by first | rfl | (simp; done) | (simp [*]; done), by repeat (first | exact Drawn0.refl _ | apply Drawn0.step)⟩

-- NOT PRINTED: function 49 (path_Has_1)

/-! ### path_Has: function 26 -/
-- FN rounds=0 making=1
-- IMPORT Derived.Test.YtpkckkmgnlhhcaaHelp
open Go.Proofs.Ytpkckkmgnlhhcaa.Help
theorem index_l0 (l : List Int) (a : Int) (hl : l.length ≤ 9223372036854775807) (d : Nat) : ∀ (k i : Nat), i + d = l.length → (∀ y ∈ l.take i, (a == y) = false) →
    slices_Index_int_int.l0 (k + d + 1) l a (l.length : Int) (i : Int) = some (idxOf (a == ·) l) := by
  induction d with
  | zero =>
    intro k i hi hf
    conv => lhs; unfold slices_Index_int_int.l0
    rw [if_neg (by omega), idxOf_none _ l (by rwa [List.take_of_length_le (by omega)] at hf)]
  | succ d ih =>
    intro k i hi hf
    have hlt : i < l.length := by omega
    rw [show k + (d + 1) + 1 = (k + d + 1) + 1 by omega]
    conv => lhs; unfold slices_Index_int_int.l0
    have hr : rd l (i : Int) = l[i] := by
      unfold rd
      rw [List.getD_eq_getElem?_getD, Int.toNat_natCast, List.getElem?_eq_getElem hlt]; rfl
    rw [if_pos (by omega), if_pos (by omega), if_pos (by omega), hr]
    have hg : l.getD (i : Int).toNat 0 = l[i] := hr
    by_cases he : a = l[i]
    · rw [if_pos he, idxOf_at (a == ·) 0 l (i : Int) (by omega) (by omega) (by rwa [Int.toNat_natCast]) (by rw [hg]; simpa using he)]
    · rw [if_neg he, show wrap64 ((i : Int) + 1) = ((i + 1 : Nat) : Int) by unfold wrap64; omega]
      refine ih k (i + 1) (by omega) ?_
      have := take_next (a == ·) 0 l (i : Int) (by omega) (by omega) (by rwa [Int.toNat_natCast]) (by rw [hg]; simpa using he)
      rwa [show ((i : Int) + 1).toNat = i + 1 by omega] at this
def hasB (a : Int) (l : List Int) : Bool := l.any (a == ·)
theorem contains_eq (l : List Int) (a : Int) (hl : l.length ≤ 9223372036854775807) : slices_Contains_int_int.f (l.length + 1) l a = some (hasB a l) := by
  unfold slices_Contains_int_int.f slices_Index_int_int.f hasB
  have := index_l0 l a hl l.length 0 0 (by omega) (by simp)
  rw [show 0 + l.length + 1 = l.length + 1 by omega] at this
  rw [show ((0 : Nat) : Int) = 0 from rfl] at this
  rw [this, ← idxOf_any]
  rfl
def segHas (a : Int) (s : S38) : Bool := hasB a s.f1
set_option maxHeartbeats 2000000 in
set_option maxRecDepth 100000 in
theorem has_1 (b : Bool) (A1 : Option Addr) (c1 : Nat) (l1 : List Int) (a : Int) (g : Nat) (w : World) (hg : w.heap[g]? = some (.cells #[.int .i64 a] 3 (0, 0))) (hr1 : Kd.C (Kd.int .i64) w A1 l1.length l1) (hc1 : l1.length ≤ c1) :
    Calls Try.prog 49 #[.agg #[.bool b, .slice A1 l1.length c1], .pointer (some ⟨g, 0, none⟩)] w fun e w' => e = .returned (.bool (hasB a l1)) ∧ Below w.heap.size w w' := by
  have hu38 := Try.underlying38
  have hgs : g < w.heap.size := by
    rcases Nat.lt_or_ge g w.heap.size with h | h
    · exact h
    · rw [Array.getElem?_eq_none h] at hg; exact absurd hg (by simp)
  have hcell : w.cell? ⟨g, 0, none⟩ = some (.int .i64 a) := by simp [World.cell?, hg]
  have HA := Aside0.mk (show ∀ o, Calls Try.prog 50 #[.slice A1 l1.length c1, .int .i64 a] (w.alloc o) fun e w' => e = .returned (.bool (hasB a l1)) ∧ Drawn0 (w.alloc o) w' from
    fun o => slices_Contains_int_int.calls _ A1 c1 l1 a _ (w.alloc o) (Kd.C_alloc hr1 o) hc1 (contains_eq l1 a (Kd.C_max hr1)))
  have HC := Aside0.mk hc1
  clear hr1 hc1 hg
  generalize hasB a l1 = r at HA ⊢
  go_enter Try.func49, Try.ntmps49
  go_wp2_with fail
  refine (HA.out _).mono ?_
  rintro e w1 ⟨rfl, ⟨nd, rfl⟩⟩
  clear HA
  go_wp2
  go_ret
  exact ⟨rfl, pw_below_drewN (below_alloc (Below.refl _ _) _) _⟩
set_option maxHeartbeats 2000000 in
set_option maxRecDepth 100000 in
theorem indexHas (A0 : Option Addr) (c0 : Nat) (l0 : List S38) (a : Int) (g : Nat) (w : World) (hg : w.heap[g]? = some (.cells #[.int .i64 a] 3 (0, 0))) (hr0 : Kd.C k38 w A0 l0.length l0) (hc0 : l0.length ≤ c0) :
    Calls Try.prog 57 #[.slice A0 l0.length c0, .func (.func 49) #[] #[.pointer (some ⟨g, 0, none⟩)]] w fun e w' => e = .returned (.int .i64 (idxOf (segHas a) l0)) ∧ Below w.heap.size w w' := by
  have hu38 := Try.underlying38
  have hgs : g < w.heap.size := by
    rcases Nat.lt_or_ge g w.heap.size with h | h
    · exact h
    · rw [Array.getElem?_eq_none h] at hg; exact absurd hg (by simp)
  have HM := Aside0.mk (Kd.C_max hr0)
  have HR := Aside0.mk hr0
  have HC := Aside0.mk hc0
  have HG := Aside0.mk hg
  clear hr0 hc0 hg
  go_enter Try.func57, Try.ntmps57
  go_wp2
  go_loopg [8] (l0.length + 1) (fun kq v8 wr => ∃ x : Int, v8 = .int .i64 x ∧ Aside0 (0 ≤ x ∧ x + kq = l0.length + 1 ∧ (∀ y ∈ l0.take x.toNat, segHas a y = false)) ∧ Aside0 (Below w.heap.size w wr))
  case atStart => exact ⟨0, rfl, ⟨by simp⟩, ⟨Below.refl _ _⟩⟩
  case round =>
    obtain ⟨x, rfl, HF, HB⟩ := hrel
    by_cases hlt : x < (l0.length : Int)
    · have q1 := hlt
      have p1 := HF.out.1
      have c4b0 : decide (x < (l0.length : Int)) = true := decide_eq_true hlt
      have HL := Aside0.mk hlt
      clear hlt
      obtain ⟨ad, A1, c1, e, h0, h1, hc1, hr1⟩ := at_T38 (Kd.C_below HR.out HB.out) x p1 q1
      cases e
      have HX := has_1 (rd_T38 l0 x).f0 A1 c1 (rd_T38 l0 x).f1 a g wr (by rw [HB.out.block _ hgs]; exact HG.out) hr1 hc1
      have HQ : hasB a (rd_T38 l0 x).f1 = segHas a (rd_T38 l0 x) := rfl
      rw [HQ] at HX
      clear hr1 hc1 HQ
      replace p1 := eq_true p1
      replace q1 := eq_true q1
      rcases hqx : segHas a (rd_T38 l0 x) with _ | _
      · rw [hqx] at HX
        have HX := Aside0.mk HX
        have HQX := Aside0.mk hqx
        clear hqx
        cases gk with
        | zero => exact absurd HF.out.2.1 (by have := HL.out; omega)
        | succ k1 =>
          go_wp2_with fail
          refine HX.out.mono ?_
          rintro e w1 ⟨rfl, hb1⟩
          have HB1 := Aside0.mk (HB.out.trans (hb1.mono HB.out.size))
          clear HX hb1
          go_wp2
          go_roundg k1
          case measure => omega
          case rel =>
            refine ⟨x + 1, (by have hw : wrap64 (x + 1) = x + 1 := (by have := HM.out; have := HL.out; have := HF.out.1; unfold wrap64; omega); first | rfl | (simp [hw]; done)), ⟨by have := HF.out.1; omega, by have := HF.out.2.1; omega, take_next _ z38 _ _ HF.out.1 HL.out HF.out.2.2 HQX.out⟩, HB1⟩
      · rw [hqx] at HX
        have HX := Aside0.mk HX
        have HQX := Aside0.mk hqx
        clear hqx
        go_wp2_with fail
        refine HX.out.mono ?_
        rintro e w1 ⟨rfl, hb1⟩
        have HB1 := Aside0.mk (HB.out.trans (hb1.mono HB.out.size))
        clear HX hb1
        go_wp2
        go_ret
        exact ⟨by rw [idxOf_at (segHas a) z38 l0 x HF.out.1 HL.out HF.out.2.2 HQX.out]; rfl, HB1.out⟩
    · have c4b0 : decide (x < (l0.length : Int)) = false := decide_eq_false hlt
      have HL := Aside0.mk hlt
      clear hlt
      go_wp2
      go_ret
      exact ⟨by rw [idxOf_none (segHas a) l0 (by have := HF.out.2.2; rwa [List.take_of_length_le (by have := HL.out; omega)] at this)]; rfl, HB.out⟩
set_option maxHeartbeats 2000000 in
set_option maxRecDepth 100000 in
theorem containsHas (A0 : Option Addr) (c0 : Nat) (l0 : List S38) (a : Int) (g : Nat) (w : World) (hg : w.heap[g]? = some (.cells #[.int .i64 a] 3 (0, 0))) (hr0 : Kd.C k38 w A0 l0.length l0) (hc0 : l0.length ≤ c0) :
    Calls Try.prog 48 #[.slice A0 l0.length c0, .func (.func 49) #[] #[.pointer (some ⟨g, 0, none⟩)]] w fun e w' => e = .returned (.bool (l0.any (segHas a))) ∧ Below w.heap.size w w' := by
  have HI := Aside0.mk (indexHas A0 c0 l0 a g w hg hr0 hc0)
  have HE := Aside0.mk (idxOf_any (segHas a) l0)
  generalize idxOf (segHas a) l0 = ix at HI HE
  clear hg
  go_enter Try.func48, Try.ntmps48
  go_wp2_with fail
  refine HI.out.mono ?_
  rintro e w1 ⟨rfl, hb1⟩
  have HB := Aside0.mk hb1
  clear hb1 HI
  go_wp2
  go_ret
  exact ⟨by rw [← HE.out]; rfl, HB.out⟩
def path_Has.f (l0 : List S38) (a1 : Int) : Option Bool := some (l0.any (segHas a1))
set_option maxHeartbeats 2000000 in
set_option maxRecDepth 100000 in
theorem path_Has.calls (A0 : Option Addr) (c0 : Nat) (l0 : List S38) (a1 : Int) (r : Bool) (w : World) (hr0 : Kd.C k38 w A0 l0.length l0) (hc0 : l0.length ≤ c0) (h : path_Has.f l0 a1 = some r) :
    Calls Try.prog 26 #[.slice A0 l0.length c0, .int .i64 a1] w fun e w' => e = .returned (.bool r) ∧ Below w.heap.size w w' := by
  have HI := Aside0.mk (containsHas A0 c0 l0 a1 w.heap.size (w.alloc (.cells #[.int .i64 a1] 3)) (alloc_at _ _) (Kd.C_alloc hr0 _) hc0)
  obtain rfl := Option.some.inj h
  clear hr0 h
  generalize l0.any (segHas a1) = r at HI ⊢
  go_enter Try.func26, Try.ntmps26
  go_wp2_with fail
  refine HI.out.mono ?_
  rintro e w1 ⟨rfl, hb1⟩
  have HB := Aside0.mk ((below_alloc (Below.refl w.heap.size w) _).trans (hb1.mono (by rw [alloc_size]; omega)))
  clear hb1 HI
  go_wp2
  go_ret
  exact ⟨rfl, HB.out⟩


/-! ### route_Usable: function 34 -/
def route_Usable.f (a0_0 : Int) (a0_1 : Int) (a0_2 : Int) (a0_3 : Int) (l0_4 : List (S38)) (a0_5 : Int) (a0_6 : Int) (a0_7 : Int) (l0_8 : List Int) (l0_9 : List (S58)) (a0_10 : Int) (a1 : Int) : Option (Bool) := (path_Has.f l0_4 a1).bind fun t125 => (some (!t125))
set_option maxHeartbeats 8000000 in
set_option maxRecDepth 100000 in
theorem route_Usable.calls (a0_0 : Int) (a0_1 : Int) (a0_2 : Int) (a0_3 : Int) (A0_4 : Option Addr) (c0_4 : Nat) (l0_4 : List (S38)) (a0_5 : Int) (a0_6 : Int) (a0_7 : Int) (A0_8 : Option Addr) (c0_8 : Nat) (l0_8 : List Int) (A0_9 : Option Addr) (c0_9 : Nat) (l0_9 : List (S58)) (a0_10 : Int) (a1 : Int) (r : Bool) (w : World) (hr0_4 : Kd.C k38 w A0_4 l0_4.length l0_4) (hc0_4 : l0_4.length ≤ c0_4) (hr0_8 : Kd.C (Kd.int .u32) w A0_8 l0_8.length l0_8) (hc0_8 : l0_8.length ≤ c0_8) (hr0_9 : Kd.C k58 w A0_9 l0_9.length l0_9) (hc0_9 : l0_9.length ≤ c0_9) (h : route_Usable.f a0_0 a0_1 a0_2 a0_3 l0_4 a0_5 a0_6 a0_7 l0_8 l0_9 a0_10 a1 = some r) :
    Calls Try.prog 34 #[.agg #[.int .u32 a0_0, .int .i64 a0_1, .int .i64 a0_2, .int .i64 a0_3, .slice A0_4 l0_4.length c0_4, .int .u32 a0_5, .int .i64 a0_6, .int .i64 a0_7, .slice A0_8 l0_8.length c0_8, .slice A0_9 l0_9.length c0_9, .int .i64 a0_10], .int .i64 a1] w fun e w' => e = .returned (.bool r) ∧ Below w.heap.size w w' := by
  have hu48 := Try.underlying48
  have HR0_4 := Aside0.mk hr0_4
  have HC0_4 := Aside0.mk hc0_4
  clear hr0_4 hc0_4
  have HR0_8 := Aside0.mk hr0_8
  have HC0_8 := Aside0.mk hc0_8
  clear hr0_8 hc0_8
  have HR0_9 := Aside0.mk hr0_9
  have HC0_9 := Aside0.mk hc0_9
  clear hr0_9 hc0_9
  have HB := Aside0.mk (Below.refl w.heap.size w)
  have H : ((path_Has.f l0_4 a1).bind fun t125 => (some (!t125))) = some r := h
  clear h
  replace H := Option.bind_eq_some_iff.mp H
  obtain ⟨t125, A30, H⟩ := H
  replace H : (some (!t125)) = some r := H
  have A3 := Aside0.mk A30
  clear A30
  obtain rfl := Option.some.inj H
  go_enter Try.func34, Try.ntmps34
  go_wp2_with (first | ((with_reducible refine gate_dst (N := 2) rfl ?_); refine box_event ?hg (N := 2) ?hd (cs := #[.int .u32 a0_0, .int .i64 a0_1, .int .i64 a0_2, .int .i64 a0_3, .slice A0_4 l0_4.length c0_4, .int .u32 a0_5, .int .i64 a0_6, .int .i64 a0_7, .slice A0_8 l0_8.length c0_8, .slice A0_9 l0_9.length c0_9, .int .i64 a0_10]) (t := 48) ?hr ?_; (case hd => rfl); (case hg => rfl); (case hr => first | (go_simp; done) | (go_simp; rfl) | (go_simp; simp [IntKind.wrap_u8, IntKind.wrap_u32]; done)); intro gb124 hg w4 hbox hb; have n0_ := Aside0.mk (below_step (by repeat (first | (with_reducible first | exact HB.out | apply below_alloc | apply pw_below_drewN | apply below_drew1) | exact HB.out)) hb); have n1_ := Aside0.mk (hbox); have n2_ := Aside0.mk ((by rw [hg]; exact (below_size (by repeat (first | (with_reducible first | exact HB.out | apply below_alloc | apply pw_below_drewN | apply below_drew1) | exact HB.out))) : w.heap.size ≤ gb124)); have n3_ := Aside0.mk ((by rw [hg]; exact (below_size (by repeat (first | (with_reducible first | exact HB.out | apply below_alloc | apply pw_below_drewN | apply below_drew1) | exact HB.out))) : w.heap.size ≤ gb124)); clear HB; have HB := n0_; have BK124 := n1_; have GW124 := n2_; have GE124 := n3_; clear n0_ n1_ n2_ n3_; clear hb hbox hg; have hcz5_0 : w4.cell? ⟨gb124, 0, none⟩ = some (.int .u32 a0_0) := (blk_cell BK124.out 0).trans rfl; have hcz5_1 : w4.cell? ⟨gb124, 1, none⟩ = some (.int .i64 a0_1) := (blk_cell BK124.out 1).trans rfl; have hcz5_2 : w4.cell? ⟨gb124, 2, none⟩ = some (.int .i64 a0_2) := (blk_cell BK124.out 2).trans rfl; have hcz5_3 : w4.cell? ⟨gb124, 3, none⟩ = some (.int .i64 a0_3) := (blk_cell BK124.out 3).trans rfl; have hcz5_4 : w4.cell? ⟨gb124, 4, none⟩ = some (.slice A0_4 l0_4.length c0_4) := (blk_cell BK124.out 4).trans rfl; have hcz5_5 : w4.cell? ⟨gb124, 5, none⟩ = some (.int .u32 a0_5) := (blk_cell BK124.out 5).trans rfl; have hcz5_6 : w4.cell? ⟨gb124, 6, none⟩ = some (.int .i64 a0_6) := (blk_cell BK124.out 6).trans rfl; have hcz5_7 : w4.cell? ⟨gb124, 7, none⟩ = some (.int .i64 a0_7) := (blk_cell BK124.out 7).trans rfl; have hcz5_8 : w4.cell? ⟨gb124, 8, none⟩ = some (.slice A0_8 l0_8.length c0_8) := (blk_cell BK124.out 8).trans rfl; have hcz5_9 : w4.cell? ⟨gb124, 9, none⟩ = some (.slice A0_9 l0_9.length c0_9) := (blk_cell BK124.out 9).trans rfl; have hcz5_10 : w4.cell? ⟨gb124, 10, none⟩ = some (.int .i64 a0_10) := (blk_cell BK124.out 10).trans rfl; have hfz5_0 := blk_frozen BK124.out 0; have hfz5_1 := blk_frozen BK124.out 1; have hfz5_2 := blk_frozen BK124.out 2; have hfz5_3 := blk_frozen BK124.out 3; have hfz5_4 := blk_frozen BK124.out 4; have hfz5_5 := blk_frozen BK124.out 5; have hfz5_6 := blk_frozen BK124.out 6; have hfz5_7 := blk_frozen BK124.out 7; have hfz5_8 := blk_frozen BK124.out 8; have hfz5_9 := blk_frozen BK124.out 9; have hfz5_10 := blk_frozen BK124.out 10) | ((with_reducible refine gate_callee (f := 26) rfl ?_); refine goesL_ (some 9) rfl rfl Try.func26 (by kernel_rfl) rfl #[.slice A0_4 l0_4.length c0_4, .int .i64 a1] rfl (by (try simp only [List.map_toArray, List.map_cons, List.map_nil]); first | done | rfl | (simp only [List.length_drop, List.length_take]; rfl)) ?_; (with_reducible refine (path_Has.calls _ _ l0_4 a1 t125 _ ?side1 ?side2 A3.out).mono ?_); (case side1 => repeat (first | exact (Kd.C_below HR0_4.out HB.out) | (with_reducible refine Kd.C_alloc ?_ _) | (with_reducible refine Kd.C_drewN ?_ _) | (with_reducible refine Kd.C_drew ?_))); (case side2 => exact HC0_4.out); rintro e w6 ⟨rfl, hb⟩; refine ⟨_, rfl, ?_⟩; have n0_ := Aside0.mk (blk_below (g := gb124) (o := .cells #[.int .u32 a0_0, .int .i64 a0_1, .int .i64 a0_2, .int .i64 a0_3, .slice A0_4 l0_4.length c0_4, .int .u32 a0_5, .int .i64 a0_6, .int .i64 a0_7, .slice A0_8 l0_8.length c0_8, .slice A0_9 l0_9.length c0_9, .int .i64 a0_10] 48 (0, 0)) (by (with_reducible repeat (first | refine blk_drewN ?_ _ | refine blk_drew ?_ | refine blk_alloc ?_ _)); exact BK124.out) hb); have n1_ := Aside0.mk (below_step (by repeat (first | (with_reducible first | exact HB.out | apply below_alloc | apply pw_below_drewN | apply below_drew1 | refine below_set ?_ GE124.out) | exact HB.out)) hb); clear BK124; clear HB; have BK124 := n0_; have HB := n1_; clear n0_ n1_; (try clear hb); (try clear hb2); (try clear hk); (try clear hi)))
  go_ret
  exact ⟨by first | rfl | (simp [errW_none, errW_some] <;> rfl) | (simp [*, errW_none, errW_some] <;> rfl), by repeat (first | (with_reducible first | exact HB.out | apply below_alloc | apply pw_below_drewN | apply below_drew1 | refine below_set ?_ GE124.out) | exact HB.out)⟩

/-! ### route_Static: function 38 -/
def route_Static.f (a0_0 : Int) (a0_1 : Int) (a1 : Int) : Option (Int × Int × Int × Int × (List (S38)) × Int × Int × Int × List Int × (List (S58)) × Int) := some (a0_0, a0_1, (-1), 0, ([] : List (S38)), a1, (-1), (-1), ([] : List Int), ([] : List (S58)), 0)
set_option maxHeartbeats 8000000 in
set_option maxRecDepth 100000 in
theorem route_Static.calls (a0_0 : Int) (a0_1 : Int) (a1 : Int) (r1 : Int) (r2 : Int) (r3 : Int) (r4 : Int) (r5 : List (S38)) (r6 : Int) (r7 : Int) (r8 : Int) (r9 : List Int) (r10 : List (S58)) (r11 : Int) (w : World) (h : route_Static.f a0_0 a0_1 a1 = some (r1, r2, r3, r4, r5, r6, r7, r8, r9, r10, r11)) :
    Calls Try.prog 38 #[.agg #[.int .u32 a0_0, .int .i64 a0_1], .int .u32 a1] w fun e w' => ∃ v4_ v8_ v9_ : Value, e = .returned (.agg #[.int .u32 r1, .int .i64 r2, .int .i64 r3, .int .i64 r4, v4_, .int .u32 r6, .int .i64 r7, .int .i64 r8, v8_, v9_, .int .i64 r11]) ∧ Kd.S k38 38 w' w.heap.size (fun _ => True) v4_ r5 ∧ Kd.R (Kd.int .u32) 40 w' w.heap.size (fun _ => True) v8_ r9 ∧ Kd.S k58 58 w' w.heap.size (fun _ => True) v9_ r10 ∧ Below w.heap.size w w' := by
  have hu42 := Try.underlying42
  have hu48 := Try.underlying48
  have hu46 := Try.underlying46
  have HB := Aside0.mk (Below.refl w.heap.size w)
  have H : (some (a0_0, a0_1, (-1), 0, ([] : List (S38)), a1, (-1), (-1), ([] : List Int), ([] : List (S58)), 0)) = some (r1, r2, r3, r4, r5, r6, r7, r8, r9, r10, r11) := h
  clear h
  simp only [Option.some.injEq, Prod.mk.injEq] at H
  obtain ⟨rfl, rfl, rfl, rfl, rfl, rfl, rfl, rfl, rfl, rfl, rfl⟩ := H
  go_enter Try.func38, Try.ntmps38
  go_wp2_with (first | ((with_reducible refine gate_dst (N := 2) rfl ?_); refine box_event ?hg (N := 2) ?hd (cs := #[.int .u32 a0_0, .int .i64 a0_1]) (t := 42) ?hr ?_; (case hd => rfl); (case hg => rfl); (case hr => first | (go_simp; done) | (go_simp; rfl) | (go_simp; simp [IntKind.wrap_u8, IntKind.wrap_u32]; done)); intro gb126 hg w3 hbox hb; have n0_ := Aside0.mk (below_step (by repeat (first | (with_reducible first | exact HB.out | apply below_alloc | apply pw_below_drewN | apply below_drew1) | exact HB.out)) hb); have n1_ := Aside0.mk (hbox); have n2_ := Aside0.mk ((by rw [hg]; exact (below_size (by repeat (first | (with_reducible first | exact HB.out | apply below_alloc | apply pw_below_drewN | apply below_drew1) | exact HB.out))) : w.heap.size ≤ gb126)); have n3_ := Aside0.mk ((by rw [hg]; exact (below_size (by repeat (first | (with_reducible first | exact HB.out | apply below_alloc | apply pw_below_drewN | apply below_drew1) | exact HB.out))) : w.heap.size ≤ gb126)); clear HB; have HB := n0_; have BK126 := n1_; have GW126 := n2_; have GE126 := n3_; clear n0_ n1_ n2_ n3_; clear hb hbox hg) | ((with_reducible refine gate_dst (N := 4) rfl ?_); refine box_event ?hg (N := 4) ?hd (cs := #[.int .u32 0, .int .i64 0, .int .i64 0, .int .i64 0, .slice none 0 0, .int .u32 0, .int .i64 0, .int .i64 0, .slice none 0 0, .slice none 0 0, .int .i64 0]) (t := 48) ?hr ?_; (case hd => rfl); (case hg => rfl); (case hr => first | (go_simp; done) | (go_simp; rfl) | (go_simp; simp [IntKind.wrap_u8, IntKind.wrap_u32]; done)); intro gb127 hg w4 hbox hb; have n0_ := Aside0.mk (blk_below (g := gb126) (o := .cells #[.int .u32 a0_0, .int .i64 a0_1] 42 (0, 0)) (by (with_reducible repeat (first | refine blk_drewN ?_ _ | refine blk_drew ?_ | refine blk_alloc ?_ _)); exact BK126.out) hb); have n1_ := Aside0.mk (below_step (by repeat (first | (with_reducible first | exact HB.out | apply below_alloc | apply pw_below_drewN | apply below_drew1 | refine below_set ?_ GE126.out) | exact HB.out)) hb); have n2_ := Aside0.mk (hbox); have n3_ := Aside0.mk ((by rw [hg]; exact (below_size (by repeat (first | (with_reducible first | exact HB.out | apply below_alloc | apply pw_below_drewN | apply below_drew1 | refine below_set ?_ GE126.out) | exact HB.out))) : w.heap.size ≤ gb127)); have n4_ := Aside0.mk ((by rw [hg]; exact (below_size (by repeat (first | (with_reducible first | exact HB.out | apply below_alloc | apply pw_below_drewN | apply below_drew1 | refine below_set ?_ GE126.out) | exact HB.out))) : w.heap.size ≤ gb127)); have n5_ := Aside0.mk ((by rw [hg]; exact Nat.ne_of_lt (blk_lt (g := gb126) (o := .cells #[.int .u32 a0_0, .int .i64 a0_1] 42 (0, 0)) (by (with_reducible repeat (first | refine blk_drewN ?_ _ | refine blk_drew ?_ | refine blk_alloc ?_ _)); exact BK126.out)) : gb126 ≠ gb127)); have n6_ := Aside0.mk ((by rw [hg]; exact Nat.ne_of_gt (blk_lt (g := gb126) (o := .cells #[.int .u32 a0_0, .int .i64 a0_1] 42 (0, 0)) (by (with_reducible repeat (first | refine blk_drewN ?_ _ | refine blk_drew ?_ | refine blk_alloc ?_ _)); exact BK126.out)) : gb127 ≠ gb126)); clear BK126; clear HB; have BK126 := n0_; have HB := n1_; have BK127 := n2_; have GW127 := n3_; have GE127 := n4_; have NB126_127 := n5_; have NB127_126 := n6_; clear n0_ n1_ n2_ n3_ n4_ n5_ n6_; clear hb hbox hg; have hnb5 := NB126_127.out; have hnc5 := NB127_126.out; have hcz6_0 : w4.cell? ⟨gb126, 0, none⟩ = some (.int .u32 a0_0) := (blk_cell BK126.out 0).trans rfl; have hcz6_1 : w4.cell? ⟨gb126, 1, none⟩ = some (.int .i64 a0_1) := (blk_cell BK126.out 1).trans rfl; have hfz6_0 := blk_frozen BK126.out 0; have hfz6_1 := blk_frozen BK126.out 1; have hcz7_0 : w4.cell? ⟨gb127, 0, none⟩ = some (.int .u32 0) := (blk_cell BK127.out 0).trans rfl; have hcz7_1 : w4.cell? ⟨gb127, 1, none⟩ = some (.int .i64 0) := (blk_cell BK127.out 1).trans rfl; have hcz7_2 : w4.cell? ⟨gb127, 2, none⟩ = some (.int .i64 0) := (blk_cell BK127.out 2).trans rfl; have hcz7_3 : w4.cell? ⟨gb127, 3, none⟩ = some (.int .i64 0) := (blk_cell BK127.out 3).trans rfl; have hcz7_4 : w4.cell? ⟨gb127, 4, none⟩ = some (.slice none 0 0) := (blk_cell BK127.out 4).trans rfl; have hcz7_5 : w4.cell? ⟨gb127, 5, none⟩ = some (.int .u32 0) := (blk_cell BK127.out 5).trans rfl; have hcz7_6 : w4.cell? ⟨gb127, 6, none⟩ = some (.int .i64 0) := (blk_cell BK127.out 6).trans rfl; have hcz7_7 : w4.cell? ⟨gb127, 7, none⟩ = some (.int .i64 0) := (blk_cell BK127.out 7).trans rfl; have hcz7_8 : w4.cell? ⟨gb127, 8, none⟩ = some (.slice none 0 0) := (blk_cell BK127.out 8).trans rfl; have hcz7_9 : w4.cell? ⟨gb127, 9, none⟩ = some (.slice none 0 0) := (blk_cell BK127.out 9).trans rfl; have hcz7_10 : w4.cell? ⟨gb127, 10, none⟩ = some (.int .i64 0) := (blk_cell BK127.out 10).trans rfl; have hfz7_0 := blk_frozen BK127.out 0; have hfz7_1 := blk_frozen BK127.out 1; have hfz7_2 := blk_frozen BK127.out 2; have hfz7_3 := blk_frozen BK127.out 3; have hfz7_4 := blk_frozen BK127.out 4; have hfz7_5 := blk_frozen BK127.out 5; have hfz7_6 := blk_frozen BK127.out 6; have hfz7_7 := blk_frozen BK127.out 7; have hfz7_8 := blk_frozen BK127.out 8; have hfz7_9 := blk_frozen BK127.out 9; have hfz7_10 := blk_frozen BK127.out 10))
  refine bodyPost_ret (results_cell_row rfl _ _ gb127 48 #[.int .u32 a0_0, .int .i64 a0_1, .int .i64 (-1), .int .i64 0, .slice none 0 0, .int .u32 a1, .int .i64 (-1), .int .i64 (-1), .slice none 0 0, .slice none 0 0, .int .i64 0] (0, 0) _ rfl (by (with_reducible repeat (first | refine blk_drewN ?_ _ | refine blk_drew ?_ | refine blk_alloc ?_ _)); refine blk_put (cs := #[.int .u32 a0_0, .int .i64 a0_1, .int .i64 (-1), .int .i64 0, .slice none 0 0, .int .u32 a1, .int .i64 (-1), .int .i64 (-1), .slice none 0 0, .slice none 0 0, .int .i64 0]) ?_ 10 _ rfl; (with_reducible repeat (first | refine blk_drewN ?_ _ | refine blk_drew ?_ | refine blk_alloc ?_ _)); refine blk_put (cs := #[.int .u32 a0_0, .int .i64 a0_1, .int .i64 (-1), .int .i64 0, .slice none 0 0, .int .u32 a1, .int .i64 (-1), .int .i64 (-1), .slice none 0 0, .slice none 0 0, .int .i64 0]) ?_ 9 _ rfl; (with_reducible repeat (first | refine blk_drewN ?_ _ | refine blk_drew ?_ | refine blk_alloc ?_ _)); refine blk_put (cs := #[.int .u32 a0_0, .int .i64 a0_1, .int .i64 (-1), .int .i64 0, .slice none 0 0, .int .u32 a1, .int .i64 (-1), .int .i64 (-1), .slice none 0 0, .slice none 0 0, .int .i64 0]) ?_ 8 _ rfl; (with_reducible repeat (first | refine blk_drewN ?_ _ | refine blk_drew ?_ | refine blk_alloc ?_ _)); refine blk_put (cs := #[.int .u32 a0_0, .int .i64 a0_1, .int .i64 (-1), .int .i64 0, .slice none 0 0, .int .u32 a1, .int .i64 (-1), .int .i64 0, .slice none 0 0, .slice none 0 0, .int .i64 0]) ?_ 7 _ rfl; (with_reducible repeat (first | refine blk_drewN ?_ _ | refine blk_drew ?_ | refine blk_alloc ?_ _)); refine blk_put (cs := #[.int .u32 a0_0, .int .i64 a0_1, .int .i64 (-1), .int .i64 0, .slice none 0 0, .int .u32 a1, .int .i64 0, .int .i64 0, .slice none 0 0, .slice none 0 0, .int .i64 0]) ?_ 6 _ rfl; (with_reducible repeat (first | refine blk_drewN ?_ _ | refine blk_drew ?_ | refine blk_alloc ?_ _)); refine blk_put (cs := #[.int .u32 a0_0, .int .i64 a0_1, .int .i64 (-1), .int .i64 0, .slice none 0 0, .int .u32 0, .int .i64 0, .int .i64 0, .slice none 0 0, .slice none 0 0, .int .i64 0]) ?_ 5 _ rfl; (with_reducible repeat (first | refine blk_drewN ?_ _ | refine blk_drew ?_ | refine blk_alloc ?_ _)); refine blk_put (cs := #[.int .u32 a0_0, .int .i64 a0_1, .int .i64 (-1), .int .i64 0, .slice none 0 0, .int .u32 0, .int .i64 0, .int .i64 0, .slice none 0 0, .slice none 0 0, .int .i64 0]) ?_ 4 _ rfl; (with_reducible repeat (first | refine blk_drewN ?_ _ | refine blk_drew ?_ | refine blk_alloc ?_ _)); refine blk_put (cs := #[.int .u32 a0_0, .int .i64 a0_1, .int .i64 (-1), .int .i64 0, .slice none 0 0, .int .u32 0, .int .i64 0, .int .i64 0, .slice none 0 0, .slice none 0 0, .int .i64 0]) ?_ 3 _ rfl; (with_reducible repeat (first | refine blk_drewN ?_ _ | refine blk_drew ?_ | refine blk_alloc ?_ _)); refine blk_put (cs := #[.int .u32 a0_0, .int .i64 a0_1, .int .i64 0, .int .i64 0, .slice none 0 0, .int .u32 0, .int .i64 0, .int .i64 0, .slice none 0 0, .slice none 0 0, .int .i64 0]) ?_ 2 _ rfl; (with_reducible repeat (first | refine blk_drewN ?_ _ | refine blk_drew ?_ | refine blk_alloc ?_ _)); refine blk_put (cs := #[.int .u32 a0_0, .int .i64 0, .int .i64 0, .int .i64 0, .slice none 0 0, .int .u32 0, .int .i64 0, .int .i64 0, .slice none 0 0, .slice none 0 0, .int .i64 0]) ?_ 1 _ rfl; (with_reducible repeat (first | refine blk_drewN ?_ _ | refine blk_drew ?_ | refine blk_alloc ?_ _)); refine blk_put (cs := #[.int .u32 0, .int .i64 0, .int .i64 0, .int .i64 0, .slice none 0 0, .int .u32 0, .int .i64 0, .int .i64 0, .slice none 0 0, .slice none 0 0, .int .i64 0]) ?_ 0 _ rfl; (with_reducible repeat (first | refine blk_drewN ?_ _ | refine blk_drew ?_ | refine blk_alloc ?_ _)); exact BK127.out) Try.underlying48 rfl (by kernel_rfl)) rfl ?_
  exact ⟨_, _, _, by first | rfl | (simp [errW_none, errW_some] <;> rfl) | (simp [*, errW_none, errW_some] <;> rfl), by first | exact Kd.S_nil _ _ _ _ _ | exact Kd.N_nil _ _ _ _ _ | exact Kd.V_nil _ _ _ _ _ | exact Kd.Q_nil _ _ _ _ _ | exact Kd.R_nil _ _ _ _ _, by first | exact Kd.R_nil _ _ _ _ _ | exact Kd.N_nil _ _ _ _ _ | exact Kd.V_nil _ _ _ _ _ | exact Kd.Q_nil _ _ _ _ _ | exact Kd.S_nil _ _ _ _ _, by first | exact Kd.S_nil _ _ _ _ _ | exact Kd.N_nil _ _ _ _ _ | exact Kd.V_nil _ _ _ _ _ | exact Kd.Q_nil _ _ _ _ _ | exact Kd.R_nil _ _ _ _ _, by repeat (first | (with_reducible first | exact HB.out | apply below_alloc | apply pw_below_drewN | apply below_drew1 | refine below_set ?_ GE126.out | refine below_set ?_ GE127.out) | exact HB.out)⟩

/-! ### interregnumlaw13_answers: function 29 -/
-- FN rounds=0 making=1
-- IMPORT Derived.BigRegion
-- IMPORT Derived.Lib.LazyBuf
-- IMPORT Derived.RegionCalls
-- IMPORT Derived.RegionTactic
-- IMPORT Derived.Test.YtpkckkmgnlhhcaaHelp
-- IMPORT Derived.Test.YtpkckkmgnlhhcaaMid
def interregnumlaw13_answers.f : Option (Bool) := some true
theorem clip_nil_u32 (w : World) : Calls Try.prog 65 #[.slice none 0 0] w fun e w' => e = .returned (.slice none 0 0) ∧ w = w' := by
  go_enter Try.func65, Try.ntmps65
  go_wp2
  go_ret
  exact ⟨rfl, rfl⟩
theorem clip_nil_seg (w : World) : Calls Try.prog 71 #[.slice none 0 0] w fun e w' => e = .returned (.slice none 0 0) ∧ w = w' := by
  go_enter Try.func71, Try.ntmps71
  go_wp2
  go_ret
  exact ⟨rfl, rfl⟩
theorem clip_nil_raw (w : World) : Calls Try.prog 68 #[.slice none 0 0] w fun e w' => e = .returned (.slice none 0 0) ∧ w = w' := by
  go_enter Try.func68, Try.ntmps68
  go_wp2
  go_ret
  exact ⟨rfl, rfl⟩
theorem clone_nil_u32 (w : World) : Calls Try.prog 66 #[.slice none 0 0] w fun e w' => e = .returned (.slice none 0 0) ∧ w = w' := by
  have hn : ∀ w, (binOp .eql 43 (.slice none 0 0) (.slice none 0 0)).run Try.prog w = .ok (.bool true) w := fun w => run_eql_slice_nil w 43 40 none 0 0 Try.underlying43
  go_enter Try.func66, Try.ntmps66
  go_wp2
  go_ret
  exact ⟨rfl, rfl⟩
theorem own_nil_path (w : World) : Calls Try.prog 55 #[.slice none 0 0] w fun e w' => e = .returned (.slice none 0 0) ∧ w = w' := by
  go_enter Try.func55, Try.ntmps55
  go_wp2
  refine wp_loop_rounds 1 ?_
  rw [rounds_succ]
  go_wp2_with (go_at_call 71; refine (clip_nil_seg _).mono ?_; rintro e w' ⟨rfl, rfl⟩)
  go_ret
  exact ⟨rfl, rfl⟩
set_option maxHeartbeats 4000000 in
set_option maxRecDepth 100000 in
theorem own_nil_attr (o n m p : Int) (w : World) : Calls Try.prog 54 #[.agg #[.int .i64 o, .slice none 0 0, .int .u32 n, .int .i64 m, .int .i64 p, .slice none 0 0, .slice none 0 0]] w fun e w' => e = .returned (.agg #[.int .i64 o, .slice none 0 0, .int .u32 n, .int .i64 m, .int .i64 p, .slice none 0 0, .slice none 0 0]) ∧ Below w.heap.size w w' := by
  have hu46 := Try.underlying46
  have hx : ((w.alloc (.cells #[.int .i64 o, .slice none 0 0, .int .u32 n, .int .i64 m, .int .i64 p, .slice none 0 0, .slice none 0 0] 46)).alloc (.cells #[.int .i64 o, .slice none 0 0, .int .u32 n, .int .i64 m, .int .i64 p, .slice none 0 0, .slice none 0 0] 46)).heap[w.heap.size + 1]? = some (.cells #[.int .i64 o, .slice none 0 0, .int .u32 n, .int .i64 m, .int .i64 p, .slice none 0 0, .slice none 0 0] 46 (0, 0)) := by
    have h := heap_alloc_new (w.alloc (.cells #[.int .i64 o, .slice none 0 0, .int .u32 n, .int .i64 m, .int .i64 p, .slice none 0 0, .slice none 0 0] 46)) (.cells #[.int .i64 o, .slice none 0 0, .int .u32 n, .int .i64 m, .int .i64 p, .slice none 0 0, .slice none 0 0] 46)
    rwa [Go.Proofs.Ytpkckkmgnlhhcaa.Help.alloc_size] at h
  have HX := Aside0.mk hx
  clear hx
  go_enter Try.func54, Try.ntmps54
  go_wp2
  go_region_with (first | (go_at_call 55; refine (own_nil_path _).mono ?_; rintro e w' ⟨rfl, rfl⟩) | (go_at_call 66; refine (clone_nil_u32 _).mono ?_; rintro e w' ⟨rfl, rfl⟩) | (go_at_call 65; refine (clip_nil_u32 _).mono ?_; rintro e w' ⟨rfl, rfl⟩))
  all_goals
    go_wp2
    refine wp_loop_rounds 1 ?_
    rw [rounds_succ]
    go_wp2_with (go_at_call 68; refine (clip_nil_raw _).mono ?_; rintro e w' ⟨rfl, rfl⟩)
    refine bodyPost_ret (results_cell_row rfl _ _ (w.heap.size + 1) 46 #[.int .i64 o, .slice none 0 0, .int .u32 n, .int .i64 m, .int .i64 p, .slice none 0 0, .slice none 0 0] (0, 0) _ rfl HX.out Try.underlying46 rfl (by kernel_rfl)) rfl ?_
    exact ⟨rfl, below_drew (below_alloc (below_alloc (Below.refl _ _) _) _)⟩
theorem seven_of (x l pe o n m p s : Int) : ∀ (j : Nat) (v : Value), ([.int .i64 o, .slice none 0 0, .int .u32 n, .int .i64 m, .int .i64 p, .slice none 0 0, .slice none 0 0] : List Value)[j]? = some v → (#[.int .u32 x, .int .i64 l, .int .i64 pe, .int .i64 o, .slice none 0 0, .int .u32 n, .int .i64 m, .int .i64 p, (.slice none 0 0), .slice none 0 0, .int .i64 s] : Array Value).toList[3 + j]? = some v := by
  intro j v h
  match j with
  | 0 => exact h
  | 1 => exact h
  | 2 => exact h
  | 3 => exact h
  | 4 => exact h
  | 5 => exact h
  | 6 => exact h
  | j + 7 => simp at h
theorem self_of (cs : List Value) : ∀ (j : Nat) (v : Value), cs[j]? = some v → cs.toArray.toList[0 + j]? = some v := by
  intro j v h
  rw [Nat.zero_add]
  exact h
set_option maxHeartbeats 4000000 in
set_option maxRecDepth 100000 in
open Go.Proofs.Ytpkckkmgnlhhcaa.Mid in
theorem own_nil_route (x l pe o n m p s : Int) (w : World) : Calls Try.prog 37 #[.agg #[.int .u32 x, .int .i64 l, .int .i64 pe, .int .i64 o, .slice none 0 0, .int .u32 n, .int .i64 m, .int .i64 p, (.slice none 0 0), .slice none 0 0, .int .i64 s]] w fun e w' => e = .returned (.agg #[.int .u32 x, .int .i64 l, .int .i64 pe, .int .i64 o, .slice none 0 0, .int .u32 n, .int .i64 m, .int .i64 p, (.slice none 0 0), .slice none 0 0, .int .i64 s]) ∧ Below w.heap.size w w' := by
  have hu46 := Try.underlying46
  have hu48 := Try.underlying48
  have hx0 : ((w.alloc (.cells #[.int .u32 x, .int .i64 l, .int .i64 pe, .int .i64 o, .slice none 0 0, .int .u32 n, .int .i64 m, .int .i64 p, (.slice none 0 0), .slice none 0 0, .int .i64 s] 48)).alloc (.cells #[.int .u32 0, .int .i64 0, .int .i64 0, .int .i64 0, .slice none 0 0, .int .u32 0, .int .i64 0, .int .i64 0, .slice none 0 0, .slice none 0 0, .int .i64 0] 48)).heap[w.heap.size]? = some (.cells #[.int .u32 x, .int .i64 l, .int .i64 pe, .int .i64 o, .slice none 0 0, .int .u32 n, .int .i64 m, .int .i64 p, (.slice none 0 0), .slice none 0 0, .int .i64 s] 48) := ((below_alloc (Below.refl _ _) _).block _ (by simp)).trans (heap_alloc_new w (.cells #[.int .u32 x, .int .i64 l, .int .i64 pe, .int .i64 o, .slice none 0 0, .int .u32 n, .int .i64 m, .int .i64 p, (.slice none 0 0), .slice none 0 0, .int .i64 s] 48))
  have hx1 : ((w.alloc (.cells #[.int .u32 x, .int .i64 l, .int .i64 pe, .int .i64 o, .slice none 0 0, .int .u32 n, .int .i64 m, .int .i64 p, (.slice none 0 0), .slice none 0 0, .int .i64 s] 48)).alloc (.cells #[.int .u32 0, .int .i64 0, .int .i64 0, .int .i64 0, .slice none 0 0, .int .u32 0, .int .i64 0, .int .i64 0, .slice none 0 0, .slice none 0 0, .int .i64 0] 48)).heap[w.heap.size + 1]? = some (.cells #[.int .u32 0, .int .i64 0, .int .i64 0, .int .i64 0, .slice none 0 0, .int .u32 0, .int .i64 0, .int .i64 0, .slice none 0 0, .slice none 0 0, .int .i64 0] 48) := by
    have h := heap_alloc_new (w.alloc (.cells #[.int .u32 x, .int .i64 l, .int .i64 pe, .int .i64 o, .slice none 0 0, .int .u32 n, .int .i64 m, .int .i64 p, (.slice none 0 0), .slice none 0 0, .int .i64 s] 48)) (.cells #[.int .u32 0, .int .i64 0, .int .i64 0, .int .i64 0, .slice none 0 0, .int .u32 0, .int .i64 0, .int .i64 0, .slice none 0 0, .slice none 0 0, .int .i64 0] 48)
    rwa [Go.Proofs.Ytpkckkmgnlhhcaa.Help.alloc_size] at h
  have HX0 := Aside0.mk hx0
  have HX1 := Aside0.mk hx1
  have HB0 := Aside0.mk (below_alloc (below_alloc (Below.refl w.heap.size w) (.cells #[.int .u32 x, .int .i64 l, .int .i64 pe, .int .i64 o, .slice none 0 0, .int .u32 n, .int .i64 m, .int .i64 p, (.slice none 0 0), .slice none 0 0, .int .i64 s] 48)) (.cells #[.int .u32 0, .int .i64 0, .int .i64 0, .int .i64 0, .slice none 0 0, .int .u32 0, .int .i64 0, .int .i64 0, .slice none 0 0, .slice none 0 0, .int .i64 0] 48))
  clear hx0 hx1
  go_enter Try.func37, Try.ntmps37
  go_wp2_with (first
    | ((with_reducible refine gate_dst (N := 4) rfl ?_); refine load_blk rfl 46 (.tmp 3) rfl (g := w.heap.size) (off := 3) [.int .i64 o, .slice none 0 0, .int .u32 n, .int .i64 m, .int .i64 p, .slice none 0 0, .slice none 0 0] _ rfl HX0.out (seven_of x l pe o n m p s) Try.underlying46 rfl (by kernel_rfl) ?_)
    | (go_at_call 54; refine (own_nil_attr o n m p _).mono ?_; rintro e w1 ⟨rfl, hb⟩; have HY0 := Aside0.mk ((hb.block _ (blk_lt HX0.out)).trans HX0.out); have HY1 := Aside0.mk ((hb.block _ (blk_lt HX1.out)).trans HX1.out); have HB1 := Aside0.mk (HB0.out.trans (hb.mono HB0.out.size)); clear hb)
    | ((with_reducible refine gate_store (t := 46) (p := 6) rfl ?_); refine store_blk rfl 46 (.tmp 6) (.tmp 5) rfl (g := w.heap.size) (off := 3) [.int .i64 o, .slice none 0 0, .int .u32 n, .int .i64 m, .int .i64 p, .slice none 0 0, .slice none 0 0] (by rfl) (by rfl) HY0.out (by show 3 + 7 ≤ 11; omega) (by kernel_rfl) (by intro v hv; simp only [List.mem_cons, List.not_mem_nil, or_false] at hv; rcases hv with rfl | rfl | rfl | rfl | rfl | rfl | rfl <;> rfl) ?_; intro w2 cur2 hx2 he2 hg2 hs2; have hc2 : cur2 = #[.int .u32 x, .int .i64 l, .int .i64 pe, .int .i64 o, .slice none 0 0, .int .u32 n, .int .i64 m, .int .i64 p, (.slice none 0 0), .slice none 0 0, .int .i64 s] := Array.toList_inj.1 (he2.trans rfl); subst hc2; have HZ0 := Aside0.mk hx2; have HZ1 := Aside0.mk ((hg2.block _ (blk_lt HY1.out) (fun e => by injection e with e; omega)).trans HY1.out); have HB2 := Aside0.mk (HB1.out.grown hg2 HB1.out.size (fun k e => by injection e with e; omega)); clear hx2 he2 hg2 hs2)
    | ((with_reducible refine gate_dst (N := 7) rfl ?_); refine load_blk rfl 48 (.tmp 1) rfl (g := w.heap.size) (off := 0) [.int .u32 x, .int .i64 l, .int .i64 pe, .int .i64 o, .slice none 0 0, .int .u32 n, .int .i64 m, .int .i64 p, (.slice none 0 0), .slice none 0 0, .int .i64 s] _ rfl HZ0.out (self_of _) Try.underlying48 rfl (by kernel_rfl) ?_)
    | ((with_reducible refine gate_store (t := 48) (p := 2) rfl ?_); refine store_new rfl 48 (.tmp 2) (.tmp 7) rfl [.int .u32 x, .int .i64 l, .int .i64 pe, .int .i64 o, .slice none 0 0, .int .u32 n, .int .i64 m, .int .i64 p, (.slice none 0 0), .slice none 0 0, .int .i64 s] (by rfl) (by rfl) HZ1.out (by rfl) (by kernel_rfl) (by intro v hv; simp only [List.mem_cons, List.not_mem_nil, or_false] at hv; rcases hv with rfl | rfl | rfl | rfl | rfl | rfl | rfl | rfl | rfl | rfl | rfl <;> rfl) ?_; intro w3 hx3 hg3 hs3; have HV1 := Aside0.mk hx3; have HB3 := Aside0.mk (HB2.out.grown hg3 HB2.out.size (fun k e => by injection e with e; omega)); clear hx3 hg3 hs3))
  refine bodyPost_ret (results_cell_row rfl _ _ (w.heap.size + 1) 48 #[.int .u32 x, .int .i64 l, .int .i64 pe, .int .i64 o, .slice none 0 0, .int .u32 n, .int .i64 m, .int .i64 p, (.slice none 0 0), .slice none 0 0, .int .i64 s] (0, 0) _ rfl HV1.out Try.underlying48 rfl (by kernel_rfl)) rfl ?_
  exact ⟨rfl, HB3.out⟩
theorem has_nil (o n m p c : Int) (w : World) : Calls Try.prog 35 #[.agg #[.int .i64 o, .slice none 0 0, .int .u32 n, .int .i64 m, .int .i64 p, .slice none 0 0, .slice none 0 0], .int .u32 c] w fun e w' => e = .returned (.bool false) ∧ Below w.heap.size w w' :=
  route_Has.calls 1 o none 0 [] n m p none 0 [] none 0 [] c false w (Kd.C_nil _ _) (Nat.le_refl _) (Kd.C_nil _ _) (Nat.le_refl _) (Kd.C_nil _ _) (Nat.le_refl _) (by rfl)
set_option maxHeartbeats 4000000 in
set_option maxRecDepth 100000 in
open Go.Proofs.Ytpkckkmgnlhhcaa.Mid in
theorem mark_nil (x l pe o n m p s : Int) (w : World) : Calls Try.prog 30 #[.agg #[.int .u32 x, .int .i64 l, .int .i64 pe, .int .i64 o, .slice none 0 0, .int .u32 n, .int .i64 m, .int .i64 p, (.slice none 0 0), .slice none 0 0, .int .i64 s], .int .i64 2] w fun e w' => ∃ v8 : Value, e = .returned (.tuple #[.agg #[.int .u32 x, .int .i64 l, .int .i64 pe, .int .i64 o, .slice none 0 0, .int .u32 n, .int .i64 m, .int .i64 p, v8, .slice none 0 0, .int .i64 2], .bool true]) ∧ Kd.R (Kd.int .u32) 40 w' w.heap.size (fun _ => True) v8 [4294901766] ∧ Below w.heap.size w w' := by
  have hu46 := Try.underlying46
  have hu48 := Try.underlying48
  have hx0 : ((w.alloc (.cells #[.int .u32 x, .int .i64 l, .int .i64 pe, .int .i64 o, .slice none 0 0, .int .u32 n, .int .i64 m, .int .i64 p, (.slice none 0 0), .slice none 0 0, .int .i64 s] 48)).alloc (.cells #[.int .u32 0, .int .i64 0, .int .i64 0, .int .i64 0, .slice none 0 0, .int .u32 0, .int .i64 0, .int .i64 0, .slice none 0 0, .slice none 0 0, .int .i64 0] 48)).heap[w.heap.size]? = some (.cells #[.int .u32 x, .int .i64 l, .int .i64 pe, .int .i64 o, .slice none 0 0, .int .u32 n, .int .i64 m, .int .i64 p, (.slice none 0 0), .slice none 0 0, .int .i64 s] 48) := ((below_alloc (Below.refl _ _) _).block _ (by simp)).trans (heap_alloc_new w (.cells #[.int .u32 x, .int .i64 l, .int .i64 pe, .int .i64 o, .slice none 0 0, .int .u32 n, .int .i64 m, .int .i64 p, (.slice none 0 0), .slice none 0 0, .int .i64 s] 48))
  have hx1 : ((w.alloc (.cells #[.int .u32 x, .int .i64 l, .int .i64 pe, .int .i64 o, .slice none 0 0, .int .u32 n, .int .i64 m, .int .i64 p, (.slice none 0 0), .slice none 0 0, .int .i64 s] 48)).alloc (.cells #[.int .u32 0, .int .i64 0, .int .i64 0, .int .i64 0, .slice none 0 0, .int .u32 0, .int .i64 0, .int .i64 0, .slice none 0 0, .slice none 0 0, .int .i64 0] 48)).heap[w.heap.size + 1]? = some (.cells #[.int .u32 0, .int .i64 0, .int .i64 0, .int .i64 0, .slice none 0 0, .int .u32 0, .int .i64 0, .int .i64 0, .slice none 0 0, .slice none 0 0, .int .i64 0] 48) := by
    have h := heap_alloc_new (w.alloc (.cells #[.int .u32 x, .int .i64 l, .int .i64 pe, .int .i64 o, .slice none 0 0, .int .u32 n, .int .i64 m, .int .i64 p, (.slice none 0 0), .slice none 0 0, .int .i64 s] 48)) (.cells #[.int .u32 0, .int .i64 0, .int .i64 0, .int .i64 0, .slice none 0 0, .int .u32 0, .int .i64 0, .int .i64 0, .slice none 0 0, .slice none 0 0, .int .i64 0] 48)
    rwa [Go.Proofs.Ytpkckkmgnlhhcaa.Help.alloc_size] at h
  have HX0 := Aside0.mk hx0
  have HX1 := Aside0.mk hx1
  have HB0 := Aside0.mk (below_alloc (below_alloc (Below.refl w.heap.size w) (.cells #[.int .u32 x, .int .i64 l, .int .i64 pe, .int .i64 o, .slice none 0 0, .int .u32 n, .int .i64 m, .int .i64 p, (.slice none 0 0), .slice none 0 0, .int .i64 s] 48)) (.cells #[.int .u32 0, .int .i64 0, .int .i64 0, .int .i64 0, .slice none 0 0, .int .u32 0, .int .i64 0, .int .i64 0, .slice none 0 0, .slice none 0 0, .int .i64 0] 48))
  clear hx0 hx1
  go_enter Try.func30, Try.ntmps30
  go_wp2_with (first
    | ((with_reducible refine gate_dst (N := 10) rfl ?_); (try (refine gate_guard (by rfl) ?_; dsimp only)); refine load_blk rfl 46 (.tmp 9) rfl (g := w.heap.size) (off := 3) [.int .i64 o, .slice none 0 0, .int .u32 n, .int .i64 m, .int .i64 p, .slice none 0 0, .slice none 0 0] _ rfl HX0.out (seven_of x l pe o n m p s) Try.underlying46 rfl (by kernel_rfl) ?_)
    | (go_at_call 35; refine (has_nil o n m p 4294901767 _).mono ?_; rintro e w1 ⟨rfl, hb⟩; have HY0 := Aside0.mk ((hb.block _ (blk_lt HX0.out)).trans HX0.out); have HY1 := Aside0.mk ((hb.block _ (blk_lt HX1.out)).trans HX1.out); have HB1 := Aside0.mk (HB0.out.trans (hb.mono HB0.out.size)); clear hb)
    | ((with_reducible refine gate_dst (N := 14) rfl ?_); refine load_blk rfl 48 (.tmp 2) rfl (g := w.heap.size) (off := 0) [.int .u32 x, .int .i64 l, .int .i64 pe, .int .i64 o, .slice none 0 0, .int .u32 n, .int .i64 m, .int .i64 p, (.slice none 0 0), .slice none 0 0, .int .i64 s] _ rfl HY0.out (self_of _) Try.underlying48 rfl (by kernel_rfl) ?_)
    | (go_at_call 37; refine (own_nil_route x l pe o n m p s _).mono ?_; rintro e w2 ⟨rfl, hb⟩; have HZ0 := Aside0.mk ((hb.block _ (blk_lt HY0.out)).trans HY0.out); have HZ1 := Aside0.mk ((hb.block _ (blk_lt HY1.out)).trans HY1.out); have HB2 := Aside0.mk (HB1.out.trans (hb.mono HB1.out.size)); clear hb)
    | ((with_reducible refine gate_store (t := 48) (p := 2) rfl ?_); refine store_new rfl 48 (.tmp 2) (.tmp 15) rfl [.int .u32 x, .int .i64 l, .int .i64 pe, .int .i64 o, .slice none 0 0, .int .u32 n, .int .i64 m, .int .i64 p, (.slice none 0 0), .slice none 0 0, .int .i64 s] (by rfl) (by rfl) HZ0.out (by rfl) (by kernel_rfl) (by intro v hv; simp only [List.mem_cons, List.not_mem_nil, or_false] at hv; rcases hv with rfl | rfl | rfl | rfl | rfl | rfl | rfl | rfl | rfl | rfl | rfl <;> rfl) ?_; intro w3 hx3 hg3 hs3; have HV1 := Aside0.mk ((hg3.block _ (blk_lt HZ1.out) (fun e => by injection e with e; omega)).trans HZ1.out); have HB3 := Aside0.mk (HB2.out.grown hg3 HB2.out.size (fun k e => by injection e with e; omega)); have hz10 : w3.cell? ⟨w.heap.size, 10, none⟩ = some (.int .i64 s) := (blk_cell hx3 10).trans rfl; have hf10 : w3.frozen? ⟨w.heap.size, 10, none⟩ = false := blk_frozen hx3 10; have HU0 := Aside0.mk (show (w3.setCell ⟨w.heap.size, 10, none⟩ (.int .i64 2)).heap[w.heap.size]? = some (.cells #[.int .u32 x, .int .i64 l, .int .i64 pe, .int .i64 o, .slice none 0 0, .int .u32 n, .int .i64 m, .int .i64 p, (.slice none 0 0), .slice none 0 0, .int .i64 2] 48 (0, 0)) from (blk_set hx3 10 (.int .i64 2)).trans rfl); have HU1 := Aside0.mk (show (w3.setCell ⟨w.heap.size, 10, none⟩ (.int .i64 2)).heap[w.heap.size + 1]? = _ from (Below.heap_setCell _ _ _ _ (by show w.heap.size + 1 ≠ w.heap.size; omega)).trans HV1.out); have HB4 := Aside0.mk (show Below w.heap.size w (w3.setCell ⟨w.heap.size, 10, none⟩ (.int .i64 2)) from Below.setCell HB3.out (Nat.le_refl _) _); clear hx3 hg3 hs3)
    | ((with_reducible refine gate_dst (N := 22) rfl ?_); (try (refine gate_guard (by rfl) ?_; dsimp only)); refine load_blk rfl 46 (.tmp 21) rfl (g := w.heap.size) (off := 3) [.int .i64 o, .slice none 0 0, .int .u32 n, .int .i64 m, .int .i64 p, .slice none 0 0, .slice none 0 0] _ rfl HU0.out (seven_of x l pe o n m p 2) Try.underlying46 rfl (by kernel_rfl) ?_)
    | (go_at_call 35; refine (has_nil o n m p 4294901766 _).mono ?_; rintro e w5 ⟨rfl, hb⟩; have HT0 := Aside0.mk ((hb.block _ (blk_lt HU0.out)).trans HU0.out); have HT1 := Aside0.mk ((hb.block _ (blk_lt HU1.out)).trans HU1.out); have HB5 := Aside0.mk (HB4.out.trans (hb.mono HB4.out.size)); have hz8 : w5.cell? ⟨w.heap.size, 8, none⟩ = some (.slice none 0 0) := (blk_cell HT0.out 8).trans rfl; clear hb)
    | ((with_reducible refine gate_builtin (b := .append) (xs := #[.tmp 35, .tmp 36]) rfl ?_); at_builtin; refine Kd.R_append (Kd.int .u32) (w0 := w) (W := w5) w.heap.size rfl (.tmp 35) (.tmp 36) 43 40 (.int .u32 0) 4 rfl Try.underlying43 (show (Try.prog.info? 40).map (fun i => (i.zero, i.size, i.bytes)) = some (some (.int .u32 0), 1, 4) from by kernel_rfl) rfl (by decide) (by omega) (.slice none 0 0) [] 4294901766 [.int .u32 4294901766] (fun _ => True) (fun _ => False) rfl rfl ?aP (fun _ hk => hk.elim) ?aF ?aO ?aB ?aS ?aL ?_; (case aP => exact rfl); (case aF => exact fun _ _ => trivial); (case aO => exact Kd.R_nil _ _ _ _ _); (case aB => exact HB5.out); (case aS => exact HB5.out.size); (case aL => show (0 + 1) * 4 ≤ _; omega); intro v37 w37 ho hb hg hat; refine hold ?_))
  unfold Hold
  have HS0 := Aside0.mk ((hg.block _ (blk_lt HT0.out) (by simp [Value.ownBlock])).trans HT0.out)
  have HS1 := Aside0.mk ((hg.block _ (blk_lt HT1.out) (by simp [Value.ownBlock])).trans HT1.out)
  obtain ⟨A37, c37, e37⟩ := Kd.R_slice ho
  subst e37
  rw [show (([] ++ [4294901766] : List Int)).length = 1 from rfl] at ho ⊢
  have HO37 := Aside0.mk ho
  have HB37 := Aside0.mk hb
  clear ho hb hg hat
  have hz8b : w37.cell? ⟨w.heap.size, 8, none⟩ = some (.slice none 0 0) := (blk_cell HS0.out 8).trans rfl
  have hf8b : w37.frozen? ⟨w.heap.size, 8, none⟩ = false := blk_frozen HS0.out 8
  have HQ0 := Aside0.mk (show (w37.setCell ⟨w.heap.size, 8, none⟩ (.slice A37 1 c37)).heap[w.heap.size]? = some (.cells #[.int .u32 x, .int .i64 l, .int .i64 pe, .int .i64 o, .slice none 0 0, .int .u32 n, .int .i64 m, .int .i64 p, (.slice A37 1 c37), .slice none 0 0, .int .i64 2] 48 (0, 0)) from (blk_set HS0.out 8 (.slice A37 1 c37)).trans rfl)
  have HQ1 := Aside0.mk (show (w37.setCell ⟨w.heap.size, 8, none⟩ (.slice A37 1 c37)).heap[w.heap.size + 1]? = _ from (Below.heap_setCell _ _ _ _ (by show w.heap.size + 1 ≠ w.heap.size; omega)).trans HS1.out)
  have HB38 := Aside0.mk (show Below w.heap.size w (w37.setCell ⟨w.heap.size, 8, none⟩ (.slice A37 1 c37)) from Below.setCell HB37.out (Nat.le_refl _) _)
  have HO38 := Aside0.mk (show Kd.R (Kd.int .u32) 40 (w37.setCell ⟨w.heap.size, 8, none⟩ (.slice A37 1 c37)) w.heap.size (fun k => True ∧ k ≠ w.heap.size) (.slice A37 1 c37) [4294901766] from Kd.R_far (Kd.R_types HO37.out HS0.out (by decide)) (fun k hk => hk.2) _)
  go_wp2_with (first
    | ((with_reducible refine gate_dst (N := 40) rfl ?_); refine load_blk rfl 48 (.tmp 2) rfl (g := w.heap.size) (off := 0) [.int .u32 x, .int .i64 l, .int .i64 pe, .int .i64 o, .slice none 0 0, .int .u32 n, .int .i64 m, .int .i64 p, (.slice A37 1 c37), .slice none 0 0, .int .i64 2] _ rfl HQ0.out (self_of _) Try.underlying48 rfl (by kernel_rfl) ?_)
    | ((with_reducible refine gate_store (t := 48) (p := 4) rfl ?_); refine store_new rfl 48 (.tmp 4) (.tmp 40) rfl [.int .u32 x, .int .i64 l, .int .i64 pe, .int .i64 o, .slice none 0 0, .int .u32 n, .int .i64 m, .int .i64 p, (.slice A37 1 c37), .slice none 0 0, .int .i64 2] (by rfl) (by rfl) HQ1.out (by rfl) (by kernel_rfl) (by intro v hv; simp only [List.mem_cons, List.not_mem_nil, or_false] at hv; rcases hv with rfl | rfl | rfl | rfl | rfl | rfl | rfl | rfl | rfl | rfl | rfl <;> rfl) ?_; intro w8 hx8 hg8 hs8; have HP1 := Aside0.mk hx8; have HB8 := Aside0.mk (HB38.out.grown hg8 HB38.out.size (fun k e => by injection e with e; omega)); have HO8 := Aside0.mk (Kd.R_grown (Kd.R_types HO38.out HQ1.out (by decide)) hg8 (fun k hk e => by injection e with e; exact hk.2 e)); clear hx8 hg8 hs8))
  refine bodyPost_ret (results_ct rfl _ _ (w.heap.size + 1) 48 #[.int .u32 x, .int .i64 l, .int .i64 pe, .int .i64 o, .slice none 0 0, .int .u32 n, .int .i64 m, .int .i64 p, (.slice A37 1 c37), .slice none 0 0, .int .i64 2] (0, 0) _ rfl HP1.out Try.underlying48 rfl (by kernel_rfl)) rfl ?_
  exact ⟨_, rfl, Kd.R_mono HO8.out (fun _ _ => trivial), HB8.out⟩
set_option maxHeartbeats 4000000 in
set_option maxRecDepth 100000 in
theorem static_exact (a l n : Int) (w : World) : Calls Try.prog 38 #[.agg #[.int .u32 a, .int .i64 l], .int .u32 n] w fun e w' => e = .returned (.agg #[.int .u32 a, .int .i64 l, .int .i64 (-1), .int .i64 0, .slice none 0 0, .int .u32 n, .int .i64 (-1), .int .i64 (-1), .slice none 0 0, .slice none 0 0, .int .i64 0]) ∧ Below w.heap.size w w' := by
  have hu42 := Try.underlying42
  have hu46 := Try.underlying46
  have hu48 := Try.underlying48
  go_enter Try.func38, Try.ntmps38
  go_wp2
  have hx : ((w.alloc (.cells #[.int .u32 a, .int .i64 l] 42)).alloc (.cells #[.int .u32 a, .int .i64 l, .int .i64 (-1), .int .i64 0, .slice none 0 0, .int .u32 n, .int .i64 (-1), .int .i64 (-1), .slice none 0 0, .slice none 0 0, .int .i64 0] 48)).heap[w.heap.size + 1]? = some (.cells #[.int .u32 a, .int .i64 l, .int .i64 (-1), .int .i64 0, .slice none 0 0, .int .u32 n, .int .i64 (-1), .int .i64 (-1), .slice none 0 0, .slice none 0 0, .int .i64 0] 48 (0, 0)) := by
    have h := heap_alloc_new (w.alloc (.cells #[.int .u32 a, .int .i64 l] 42)) (.cells #[.int .u32 a, .int .i64 l, .int .i64 (-1), .int .i64 0, .slice none 0 0, .int .u32 n, .int .i64 (-1), .int .i64 (-1), .slice none 0 0, .slice none 0 0, .int .i64 0] 48)
    rwa [Go.Proofs.Ytpkckkmgnlhhcaa.Help.alloc_size] at h
  refine bodyPost_ret (results_cell_row rfl _ _ (w.heap.size + 1) 48 #[.int .u32 a, .int .i64 l, .int .i64 (-1), .int .i64 0, .slice none 0 0, .int .u32 n, .int .i64 (-1), .int .i64 (-1), .slice none 0 0, .slice none 0 0, .int .i64 0] (0, 0) _ rfl hx Try.underlying48 rfl (by kernel_rfl)) rfl ?_
  exact ⟨rfl, below_alloc (below_alloc (Below.refl _ _) _) _⟩
theorem seven_m (A8 : Option Addr) (c8 : Nat) : ∀ (j : Nat) (v : Value), ([.int .i64 0, .slice none 0 0, .int .u32 7, .int .i64 (-1), .int .i64 (-1), .slice A8 1 c8, .slice none 0 0] : List Value)[j]? = some v → (#[.int .u32 0, .int .i64 0, .int .i64 (-1), .int .i64 0, .slice none 0 0, .int .u32 7, .int .i64 (-1), .int .i64 (-1), .slice A8 1 c8, .slice none 0 0, .int .i64 2] : Array Value).toList[3 + j]? = some v := by
  intro j v h
  match j with
  | 0 => exact h
  | 1 => exact h
  | 2 => exact h
  | 3 => exact h
  | 4 => exact h
  | 5 => exact h
  | 6 => exact h
  | j + 7 => simp at h
set_option maxHeartbeats 4000000 in
set_option maxRecDepth 100000 in
open Go.Proofs.Ytpkckkmgnlhhcaa.Mid in
theorem interregnumlaw13_answers.calls (r : Bool) (w : World) (h : interregnumlaw13_answers.f = some r) :
    Calls Try.prog 29 #[] w fun e w' => e = .returned (.bool r) ∧ Below w.heap.size w w' := by
  obtain rfl : r = true := (Option.some.inj h).symm
  have hu42 := Try.underlying42
  have hu46 := Try.underlying46
  have hu48 := Try.underlying48
  go_enter Try.func29, Try.ntmps29
  go_wp2_with (first
    | (go_at_call 38; refine (static_exact 0 0 7 _).mono ?_; rintro e w1 ⟨rfl, hb⟩; have HB1 := Aside0.mk (below_alloc hb (.cells #[.int .u32 0, .int .i64 0, .int .i64 (-1), .int .i64 0, .slice none 0 0, .int .u32 7, .int .i64 (-1), .int .i64 (-1), .slice none 0 0, .slice none 0 0, .int .i64 0] 48)); have HX1 := Aside0.mk (heap_alloc_new w1 (.cells #[.int .u32 0, .int .i64 0, .int .i64 (-1), .int .i64 0, .slice none 0 0, .int .u32 7, .int .i64 (-1), .int .i64 (-1), .slice none 0 0, .slice none 0 0, .int .i64 0] 48)); clear hb)
    | (go_at_call 30; refine (mark_nil 0 0 (-1) 0 7 (-1) (-1) 0 _).mono ?_; rintro e w2 ⟨v8, rfl, ho, hb⟩; refine hold ?_))
  unfold Hold
  obtain ⟨A8, c8, e8⟩ := Kd.R_slice ho
  have e8 : v8 = .slice A8 1 c8 := e8
  subst e8
  have HO := Aside0.mk (Kd.R_reads' (Kd.R_alloc ho (.cells #[.int .u32 0, .int .i64 0, .int .i64 (-1), .int .i64 0, .slice none 0 0, .int .u32 7, .int .i64 (-1), .int .i64 (-1), .slice A8 1 c8, .slice none 0 0, .int .i64 2] 48)))
  have HX2 := Aside0.mk (((below_alloc (Below.refl _ w2) (.cells #[.int .u32 0, .int .i64 0, .int .i64 (-1), .int .i64 0, .slice none 0 0, .int .u32 7, .int .i64 (-1), .int .i64 (-1), .slice A8 1 c8, .slice none 0 0, .int .i64 2] 48)).block _ (Nat.lt_of_lt_of_le (blk_lt HX1.out) hb.size)).trans ((hb.block _ (blk_lt HX1.out)).trans HX1.out))
  have HM2 := Aside0.mk (heap_alloc_new w2 (.cells #[.int .u32 0, .int .i64 0, .int .i64 (-1), .int .i64 0, .slice none 0 0, .int .u32 7, .int .i64 (-1), .int .i64 (-1), .slice A8 1 c8, .slice none 0 0, .int .i64 2] 48))
  have HB2 := Aside0.mk (below_alloc (HB1.out.trans (hb.mono HB1.out.size)) (.cells #[.int .u32 0, .int .i64 0, .int .i64 (-1), .int .i64 0, .slice none 0 0, .int .u32 7, .int .i64 (-1), .int .i64 (-1), .slice A8 1 c8, .slice none 0 0, .int .i64 2] 48))
  have hz2 : (w2.alloc (.cells #[.int .u32 0, .int .i64 0, .int .i64 (-1), .int .i64 0, .slice none 0 0, .int .u32 7, .int .i64 (-1), .int .i64 (-1), .slice A8 1 c8, .slice none 0 0, .int .i64 2] 48)).cell? ⟨w1.heap.size, 2, none⟩ = some (.int .i64 (-1)) := (blk_cell HX2.out 2).trans rfl
  have hz5 : (w2.alloc (.cells #[.int .u32 0, .int .i64 0, .int .i64 (-1), .int .i64 0, .slice none 0 0, .int .u32 7, .int .i64 (-1), .int .i64 (-1), .slice A8 1 c8, .slice none 0 0, .int .i64 2] 48)).cell? ⟨w1.heap.size, 5, none⟩ = some (.int .u32 7) := (blk_cell HX2.out 5).trans rfl
  have hz6 : (w2.alloc (.cells #[.int .u32 0, .int .i64 0, .int .i64 (-1), .int .i64 0, .slice none 0 0, .int .u32 7, .int .i64 (-1), .int .i64 (-1), .slice A8 1 c8, .slice none 0 0, .int .i64 2] 48)).cell? ⟨w1.heap.size, 6, none⟩ = some (.int .i64 (-1)) := (blk_cell HX2.out 6).trans rfl
  have hzs : (w2.alloc (.cells #[.int .u32 0, .int .i64 0, .int .i64 (-1), .int .i64 0, .slice none 0 0, .int .u32 7, .int .i64 (-1), .int .i64 (-1), .slice A8 1 c8, .slice none 0 0, .int .i64 2] 48)).cell? ⟨w2.heap.size, 10, none⟩ = some (.int .i64 2) := (blk_cell HM2.out 10).trans rfl
  clear ho hb HX1 HB1
  go_wp2_with (first
    | ((with_reducible refine gate_dst (N := 36) rfl ?_); (try (refine gate_guard (by rfl) ?_; dsimp only)); refine load_blk rfl 46 (.tmp 35) rfl (g := w2.heap.size) (off := 3) [.int .i64 0, .slice none 0 0, .int .u32 7, .int .i64 (-1), .int .i64 (-1), .slice A8 1 c8, .slice none 0 0] _ rfl HM2.out (seven_m A8 c8) Try.underlying46 rfl (by kernel_rfl) ?_)
    | (go_at_call 35; refine (route_Has.calls 2 0 none 0 [] 7 (-1) (-1) A8 c8 [4294901766] none 0 [] 4294901766 true _ (Kd.C_nil _ _) (Nat.le_refl _) HO.out.2.2 HO.out.2.1 (Kd.C_nil _ _) (Nat.le_refl _) (by rfl)).mono ?_; rintro e w3 ⟨rfl, hb⟩; have HX3 := Aside0.mk ((hb.block _ (blk_lt HX2.out)).trans HX2.out); have HB3 := Aside0.mk (HB2.out.trans (hb.mono HB2.out.size)); clear hb)
    | ((with_reducible refine gate_dst (N := 40) rfl ?_); (try (refine gate_guard (by rfl) ?_; dsimp only)); refine load_blk rfl 48 (.tmp 1) rfl (g := w1.heap.size) (off := 0) [.int .u32 0, .int .i64 0, .int .i64 (-1), .int .i64 0, .slice none 0 0, .int .u32 7, .int .i64 (-1), .int .i64 (-1), .slice none 0 0, .slice none 0 0, .int .i64 0] _ rfl HX3.out (self_of _) Try.underlying48 rfl (by kernel_rfl) ?_)
    | ((with_reducible refine gate_dst (N := 41) rfl ?_); (try (refine gate_guard (by rfl) ?_; dsimp only)); refine load_blk rfl 48 (.tmp 1) rfl (g := w1.heap.size) (off := 0) [.int .u32 0, .int .i64 0, .int .i64 (-1), .int .i64 0, .slice none 0 0, .int .u32 7, .int .i64 (-1), .int .i64 (-1), .slice none 0 0, .slice none 0 0, .int .i64 0] _ rfl HX3.out (self_of _) Try.underlying48 rfl (by kernel_rfl) ?_)
    | (go_at_call 33; refine (route_Same.calls 0 0 (-1) 0 none 0 [] 7 (-1) (-1) none 0 [] none 0 [] 0 0 0 (-1) 0 none 0 [] 7 (-1) (-1) none 0 [] none 0 [] 0 true _ (Kd.C_nil _ _) (Nat.le_refl _) (Kd.C_nil _ _) (Nat.le_refl _) (Kd.C_nil _ _) (Nat.le_refl _) (Kd.C_nil _ _) (Nat.le_refl _) (Kd.C_nil _ _) (Nat.le_refl _) (Kd.C_nil _ _) (Nat.le_refl _) (by rfl)).mono ?_; rintro e w4 ⟨rfl, hb⟩; have HX4 := Aside0.mk ((hb.block _ (blk_lt HX3.out)).trans HX3.out); have HB4 := Aside0.mk (HB3.out.trans (hb.mono HB3.out.size)); clear hb)
    | ((with_reducible refine gate_dst (N := 45) rfl ?_); (try (refine gate_guard (by rfl) ?_; dsimp only)); refine load_blk rfl 48 (.tmp 1) rfl (g := w1.heap.size) (off := 0) [.int .u32 0, .int .i64 0, .int .i64 (-1), .int .i64 0, .slice none 0 0, .int .u32 7, .int .i64 (-1), .int .i64 (-1), .slice none 0 0, .slice none 0 0, .int .i64 0] _ rfl HX4.out (self_of _) Try.underlying48 rfl (by kernel_rfl) ?_)
    | (go_at_call 34; refine (route_Usable.calls 0 0 (-1) 0 none 0 [] 7 (-1) (-1) none 0 [] none 0 [] 0 1 true _ (Kd.C_nil _ _) (Nat.le_refl _) (Kd.C_nil _ _) (Nat.le_refl _) (Kd.C_nil _ _) (Nat.le_refl _) (by rfl)).mono ?_; rintro e w5 ⟨rfl, hb⟩; have HB5 := Aside0.mk (HB4.out.trans (hb.mono HB4.out.size)); clear hb))
  go_ret
  exact ⟨rfl, HB5.out⟩


/-! ### interregnumref01_Same: function 17 -/
def interregnumref01_Same.l0 : Nat → List Int → List Int → Int → Option (Bool)
  | 0, _, _, _ => none
  | k + 1, x0, x1, x5 => if x5 < (x0.length : Int) then (if 0 ≤ x5 then (if x5 < (x1.length : Int) then (if (rd x0 x5) = (rd x1 x5) then (interregnumref01_Same.l0 k x0 x1 (wrap64 (x5 + 1))) else (some false)) else (none)) else (none)) else (some true)
def interregnumref01_Same.f (k : Nat) (l0 : List Int) (l1 : List Int) : Option (Bool) := if (l0.length : Int) = (l1.length : Int) then (interregnumref01_Same.l0 k l0 l1 0) else (some false)
theorem interregnumref01_Same.mono_l : ∀ k, (∀ y0 y1 y2, LeO (interregnumref01_Same.l0 k y0 y1 y2) (interregnumref01_Same.l0 (k + 1) y0 y1 y2))
  | 0 => fun _ _ _ r h => by simp [interregnumref01_Same.l0] at h
  | k + 1 => by
    have ih0 := interregnumref01_Same.mono_l k
    · intro y0 y1 y2
      unfold interregnumref01_Same.l0
      repeat' first
      | (with_reducible exact ih0 _ _ _)
      | (with_reducible exact LeO.refl _)
      | (with_reducible exact LeO.none _)
      | (with_reducible refine LeO.ite ?_ ?_)
      | (with_reducible refine LeO.bind ?_ (fun _ => ?_))
      | exact ih0 _ _ _
      | exact LeO.none _
      | refine LeO.ite ?_ ?_
      | refine LeO.bind ?_ (fun _ => ?_)
theorem interregnumref01_Same.mono : ∀ a0 a1 k, LeO (interregnumref01_Same.f k a0 a1) (interregnumref01_Same.f (k + 1) a0 a1) := by
  intro a0 a1 k
  have ih0 := interregnumref01_Same.mono_l k
  unfold interregnumref01_Same.f
  repeat' first
      | (with_reducible exact ih0 _ _ _)
      | (with_reducible exact LeO.refl _)
      | (with_reducible exact LeO.none _)
      | (with_reducible refine LeO.ite ?_ ?_)
      | (with_reducible refine LeO.bind ?_ (fun _ => ?_))
      | exact ih0 _ _ _
      | exact LeO.none _
      | refine LeO.ite ?_ ?_
      | refine LeO.bind ?_ (fun _ => ?_)
set_option maxHeartbeats 8000000 in
set_option maxRecDepth 100000 in
theorem interregnumref01_Same.calls (k : Nat) (A0 : Option Addr) (c0 : Nat) (l0 : List Int) (A1 : Option Addr) (c1 : Nat) (l1 : List Int) (r : Bool) (w : World) (hr0 : Kd.C (Kd.int .u8) w A0 l0.length l0) (hc0 : l0.length ≤ c0) (hr1 : Kd.C (Kd.int .u8) w A1 l1.length l1) (hc1 : l1.length ≤ c1) (h : interregnumref01_Same.f k l0 l1 = some r) :
    Calls Try.prog 17 #[.slice A0 l0.length c0, .slice A1 l1.length c1] w fun e w' => e = .returned (.bool r) ∧ Drawn0 w w' := by
  have HR0 := Aside0.mk hr0
  have HC0 := Aside0.mk hc0
  clear hr0 hc0
  have HR1 := Aside0.mk hr1
  have HC1 := Aside0.mk hc1
  clear hr1 hc1
  have H : (if (l0.length : Int) = (l1.length : Int) then (interregnumref01_Same.l0 k l0 l1 0) else (some false)) = some r := h
  clear h
  by_cases c3 : (l0.length : Int) = (l1.length : Int)
  · rw [if_pos c3] at H
    have c3b0 : ((l0.length : Int) == (l1.length : Int)) = true := beq_iff_eq.mpr c3
    have c3b1 : ((l0.length : Int) != (l1.length : Int)) = false := bne_eq_false_iff_eq.mpr c3
    have c3b2 : (l0.length == l1.length) = true := by first | simpa using c3 | (simp at c3 ⊢; omega)
    clear c3
    have H' := Aside0.mk H
    clear H
    go_enter Try.func17, Try.ntmps17
    go_wp2
    repeat (go_quiet (fail); try go_wp2)
    go_loopg [5] k (fun kq v5 w' => ∃ (x5_1 : Int), v5 = .int .i64 x5_1 ∧ Aside0 (interregnumref01_Same.l0 kq l0 l1 x5_1 = some r) ∧ Aside0 (kq ≤ k) ∧ Drawn0 w w')
    case atStart => exact ⟨(0), (by first | rfl | (simp; done) | (simp [*]; done)), H', ⟨Nat.le_refl _⟩, by repeat (first | exact Drawn0.refl _ | apply Drawn0.step)⟩
    case round =>
      clear H'
      try clear c1
      try clear p2
      try clear c3
      try clear c3b0
      try clear c3b1
      try clear c3b2
      obtain ⟨x5_1, rfl, HA, HK1, ⟨m1, rfl⟩⟩ := hrel
      cases gk with
      | zero => exact absurd HA.out (by simp [interregnumref01_Same.l0])
      | succ k1 =>
        have H := HA.out
        clear HA
        simp only [interregnumref01_Same.l0] at H
        by_cases c4 : x5_1 < (l0.length : Int)
        · rw [if_pos c4] at H
          have c4b0 : decide (x5_1 < (l0.length : Int)) = true := decide_eq_true c4
          clear c4
          by_cases c5 : 0 ≤ x5_1
          · rw [if_pos c5] at H
            have c5b0 : decide (0 ≤ x5_1) = true := decide_eq_true c5
            clear c5
            by_cases c6 : x5_1 < (l1.length : Int)
            · rw [if_pos c6] at H
              have c6b0 : decide (x5_1 < (l1.length : Int)) = true := decide_eq_true c6
              clear c6
              by_cases c7 : (rd l0 x5_1) = (rd l1 x5_1)
              · rw [if_pos c7] at H
                have c7b0 : ((rd l0 x5_1) == (rd l1 x5_1)) = true := beq_iff_eq.mpr c7
                have c7b1 : ((rd l0 x5_1) != (rd l1 x5_1)) = false := bne_eq_false_iff_eq.mpr c7
                clear c7
                have H' := Aside0.mk H
                clear H
                have p128 : 0 ≤ (x5_1 : Int) := of_decide_eq_true (by first | (with_reducible assumption) | assumption)
                have q128 : x5_1 < (l0.length : Int) := of_decide_eq_true (by first | (with_reducible assumption) | assumption)
                obtain ⟨ad128, e128, hx128_0⟩ := Kd.at_int HR0.out x5_1 p128 q128
                cases e128
                replace p128 := eq_true p128
                replace q128 := eq_true q128
                have p129 : 0 ≤ (x5_1 : Int) := of_decide_eq_true (by first | (with_reducible assumption) | assumption)
                have q129 : x5_1 < (l1.length : Int) := of_decide_eq_true (by first | (with_reducible assumption) | assumption)
                obtain ⟨ad129, e129, hx129_0⟩ := Kd.at_int HR1.out x5_1 p129 q129
                cases e129
                replace p129 := eq_true p129
                replace q129 := eq_true q129
                go_wp2
                repeat (go_quiet (fail); try go_wp2)
                go_roundg k1
                case measure => have := HK1.out; omega
                case rel => exact ⟨(wrap64 (x5_1 + 1)), (by first | rfl | (simp; done) | (simp [*]; done)), H', ⟨by have := HK1.out; omega⟩, by repeat (first | exact Drawn0.refl _ | apply Drawn0.step)⟩
              · rw [if_neg c7] at H
                have c7b0 : ((rd l0 x5_1) == (rd l1 x5_1)) = false := beq_eq_false_iff_ne.mpr c7
                have c7b1 : ((rd l0 x5_1) != (rd l1 x5_1)) = true := bne_iff_ne.mpr c7
                obtain rfl := Option.some.inj H
                have p128 : 0 ≤ (x5_1 : Int) := of_decide_eq_true (by first | (with_reducible assumption) | assumption)
                have q128 : x5_1 < (l0.length : Int) := of_decide_eq_true (by first | (with_reducible assumption) | assumption)
                obtain ⟨ad128, e128, hx128_0⟩ := Kd.at_int HR0.out x5_1 p128 q128
                cases e128
                replace p128 := eq_true p128
                replace q128 := eq_true q128
                have p129 : 0 ≤ (x5_1 : Int) := of_decide_eq_true (by first | (with_reducible assumption) | assumption)
                have q129 : x5_1 < (l1.length : Int) := of_decide_eq_true (by first | (with_reducible assumption) | assumption)
                obtain ⟨ad129, e129, hx129_0⟩ := Kd.at_int HR1.out x5_1 p129 q129
                cases e129
                replace p129 := eq_true p129
                replace q129 := eq_true q129
                go_wp2
                repeat (go_quiet (fail); try go_wp2)
                go_ret
                exact ⟨by first | rfl | (simp; done) | (simp [*]; done), by repeat (first | exact Drawn0.refl _ | apply Drawn0.step)⟩
            · rw [if_neg c6] at H
              exact absurd H (by simp)
          · rw [if_neg c5] at H
            exact absurd H (by simp)
        · rw [if_neg c4] at H
          have c4b0 : decide (x5_1 < (l0.length : Int)) = false := decide_eq_false c4
          clear c4
          obtain rfl := Option.some.inj H
          go_wp2
          repeat (go_quiet (fail); try go_wp2)
          go_ret
          exact ⟨by first | rfl | (simp; done) | (simp [*]; done), by repeat (first | exact Drawn0.refl _ | apply Drawn0.step)⟩
  · rw [if_neg c3] at H
    have c3b0 : ((l0.length : Int) == (l1.length : Int)) = false := beq_eq_false_iff_ne.mpr c3
    have c3b1 : ((l0.length : Int) != (l1.length : Int)) = true := bne_iff_ne.mpr c3
    have c3b2 : (l0.length == l1.length) = false := by first | simpa using c3 | (simp at c3 ⊢; omega)
    obtain rfl := Option.some.inj H
    go_enter Try.func17, Try.ntmps17
    go_wp2
    repeat (go_quiet (fail); try go_wp2)
    go_ret
    exact ⟨by first | rfl | (simp; done) | (simp [*]; done), by repeat (first | exact Drawn0.refl _ | apply Drawn0.step)⟩

end Go.Proofs.Ytpkckkmgnlhhcaa.PRouteOwn
