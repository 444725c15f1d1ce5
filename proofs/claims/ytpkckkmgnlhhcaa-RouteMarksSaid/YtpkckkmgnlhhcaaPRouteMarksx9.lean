-- Lean text by a program of this repo (wip/tools/printx.py), out of Lean's own print of the translation
import Derived.Test.YtpkckkmgnlhhcaaInts
import Derived.Test.YtpkckkmgnlhhcaaMid
import Derived.Test.YtpkckkmgnlhhcaaHelp
import Derived.ArgAppend
import Derived.Test.YtpkckkmgnlhhcaaPRouteMarksx0
import Derived.Test.YtpkckkmgnlhhcaaPRouteMarksx1
import Derived.Test.YtpkckkmgnlhhcaaPRouteMarksx2
import Derived.Test.YtpkckkmgnlhhcaaPRouteMarksx3
import Derived.Test.YtpkckkmgnlhhcaaPRouteMarksx4
import Derived.Test.YtpkckkmgnlhhcaaPRouteMarksx6
import Derived.Test.YtpkckkmgnlhhcaaPRouteMarksx8
namespace Go.Proofs.Ytpkckkmgnlhhcaa.PRouteMarks
open Go.RowKit Go.Proofs.YtpkckkmgnlhhcaaW.PrintWords Go.Proofs.YtpkckkmgnlhhcaaW.PrintLast Go.Proofs.YtpkckkmgnlhhcaaW.PrintMore
attribute [local go_sem] max2_int min2_int max_two min_two max_three min_three max_four min_four   -- for this text's walks alone
set_option linter.unusedVariables false
set_option linter.unusedSimpArgs false

attribute [local go_sem high] eqA42
/-! ### interregnumref11_SameRoute: function 32 -/
def interregnumref11_SameRoute.f (k : Nat) (a0_0 : Int) (a0_1 : Int) (a0_2 : Int) (a0_3 : Int) (l0_4 : List (S38)) (a0_5 : Int) (a0_6 : Int) (a0_7 : Int) (l0_8 : List Int) (l0_9 : List (S58)) (a0_10 : Int) (a1_0 : Int) (a1_1 : Int) (a1_2 : Int) (a1_3 : Int) (l1_4 : List (S38)) (a1_5 : Int) (a1_6 : Int) (a1_7 : Int) (l1_8 : List Int) (l1_9 : List (S58)) (a1_10 : Int) : Option (Bool) := if (a0_0 == a1_0 && (a0_1 == a1_1)) = true then (if a0_2 = a1_2 then (if a0_10 = a1_10 then ((interregnumref05_SameAttrs.f k a0_3 l0_4 a0_5 a0_6 a0_7 l0_8 l0_9 a1_3 l1_4 a1_5 a1_6 a1_7 l1_8 l1_9).bind fun t189 => (some t189)) else (some false)) else (some false)) else (some false)
theorem interregnumref11_SameRoute.mono : ∀ a0 a1 a2 a3 a4 a5 a6 a7 a8 a9 a10 a11 a12 a13 a14 a15 a16 a17 a18 a19 a20 a21 k, LeO (interregnumref11_SameRoute.f k a0 a1 a2 a3 a4 a5 a6 a7 a8 a9 a10 a11 a12 a13 a14 a15 a16 a17 a18 a19 a20 a21) (interregnumref11_SameRoute.f (k + 1) a0 a1 a2 a3 a4 a5 a6 a7 a8 a9 a10 a11 a12 a13 a14 a15 a16 a17 a18 a19 a20 a21) := by
  intro a0 a1 a2 a3 a4 a5 a6 a7 a8 a9 a10 a11 a12 a13 a14 a15 a16 a17 a18 a19 a20 a21 k
  unfold interregnumref11_SameRoute.f
  repeat' first
      | (with_reducible exact interregnumref05_SameAttrs.mono _ _ _ _ _ _ _ _ _ _ _ _ _ _ _)
      | (with_reducible exact LeO.refl _)
      | (with_reducible exact LeO.none _)
      | (with_reducible refine LeO.ite ?_ ?_)
      | (with_reducible refine LeO.bind ?_ (fun _ => ?_))
      | exact interregnumref05_SameAttrs.mono _ _ _ _ _ _ _ _ _ _ _ _ _ _ _
      | exact LeO.none _
      | refine LeO.ite ?_ ?_
      | refine LeO.bind ?_ (fun _ => ?_)
set_option maxHeartbeats 8000000 in
set_option maxRecDepth 100000 in
theorem interregnumref11_SameRoute.calls (k : Nat) (a0_0 : Int) (a0_1 : Int) (a0_2 : Int) (a0_3 : Int) (A0_4 : Option Addr) (c0_4 : Nat) (l0_4 : List (S38)) (a0_5 : Int) (a0_6 : Int) (a0_7 : Int) (A0_8 : Option Addr) (c0_8 : Nat) (l0_8 : List Int) (A0_9 : Option Addr) (c0_9 : Nat) (l0_9 : List (S58)) (a0_10 : Int) (a1_0 : Int) (a1_1 : Int) (a1_2 : Int) (a1_3 : Int) (A1_4 : Option Addr) (c1_4 : Nat) (l1_4 : List (S38)) (a1_5 : Int) (a1_6 : Int) (a1_7 : Int) (A1_8 : Option Addr) (c1_8 : Nat) (l1_8 : List Int) (A1_9 : Option Addr) (c1_9 : Nat) (l1_9 : List (S58)) (a1_10 : Int) (r : Bool) (w : World) (hr0_4 : Kd.C k38 w A0_4 l0_4.length l0_4) (hc0_4 : l0_4.length ≤ c0_4) (hr0_8 : Kd.C (Kd.int .u32) w A0_8 l0_8.length l0_8) (hc0_8 : l0_8.length ≤ c0_8) (hr0_9 : Kd.C k58 w A0_9 l0_9.length l0_9) (hc0_9 : l0_9.length ≤ c0_9) (hr1_4 : Kd.C k38 w A1_4 l1_4.length l1_4) (hc1_4 : l1_4.length ≤ c1_4) (hr1_8 : Kd.C (Kd.int .u32) w A1_8 l1_8.length l1_8) (hc1_8 : l1_8.length ≤ c1_8) (hr1_9 : Kd.C k58 w A1_9 l1_9.length l1_9) (hc1_9 : l1_9.length ≤ c1_9) (h : interregnumref11_SameRoute.f k a0_0 a0_1 a0_2 a0_3 l0_4 a0_5 a0_6 a0_7 l0_8 l0_9 a0_10 a1_0 a1_1 a1_2 a1_3 l1_4 a1_5 a1_6 a1_7 l1_8 l1_9 a1_10 = some r) :
    Calls Try.prog 32 #[.agg #[.int .u32 a0_0, .int .i64 a0_1, .int .i64 a0_2, .int .i64 a0_3, .slice A0_4 l0_4.length c0_4, .int .u32 a0_5, .int .i64 a0_6, .int .i64 a0_7, .slice A0_8 l0_8.length c0_8, .slice A0_9 l0_9.length c0_9, .int .i64 a0_10], .agg #[.int .u32 a1_0, .int .i64 a1_1, .int .i64 a1_2, .int .i64 a1_3, .slice A1_4 l1_4.length c1_4, .int .u32 a1_5, .int .i64 a1_6, .int .i64 a1_7, .slice A1_8 l1_8.length c1_8, .slice A1_9 l1_9.length c1_9, .int .i64 a1_10]] w fun e w' => e = .returned (.bool r) ∧ Below w.heap.size w w' := by
  have hu48 := Try.underlying48
  have hu42 := Try.underlying42
  have hu46 := Try.underlying46
  have HR0_4 := Aside0.mk hr0_4
  have HC0_4 := Aside0.mk hc0_4
  clear hr0_4 hc0_4
  have HR0_8 := Aside0.mk hr0_8
  have HC0_8 := Aside0.mk hc0_8
  clear hr0_8 hc0_8
  have HR0_9 := Aside0.mk hr0_9
  have HC0_9 := Aside0.mk hc0_9
  clear hr0_9 hc0_9
  have HR1_4 := Aside0.mk hr1_4
  have HC1_4 := Aside0.mk hc1_4
  clear hr1_4 hc1_4
  have HR1_8 := Aside0.mk hr1_8
  have HC1_8 := Aside0.mk hc1_8
  clear hr1_8 hc1_8
  have HR1_9 := Aside0.mk hr1_9
  have HC1_9 := Aside0.mk hc1_9
  clear hr1_9 hc1_9
  have HB := Aside0.mk (Below.refl w.heap.size w)
  have H : (if (a0_0 == a1_0 && (a0_1 == a1_1)) = true then (if a0_2 = a1_2 then (if a0_10 = a1_10 then ((interregnumref05_SameAttrs.f k a0_3 l0_4 a0_5 a0_6 a0_7 l0_8 l0_9 a1_3 l1_4 a1_5 a1_6 a1_7 l1_8 l1_9).bind fun t189 => (some t189)) else (some false)) else (some false)) else (some false)) = some r := h
  clear h
  by_cases c3 : (a0_0 == a1_0 && (a0_1 == a1_1)) = true
  · rw [if_pos c3] at H
    have c3b0 : (a0_0 == a1_0 && (a0_1 == a1_1)) = true := c3
    (try (have c3b1 : decide (a0_0 = a1_0 && (a0_1 == a1_1)) = true := by simpa using c3))
    (try (have c3b2 : (a0_0 == a1_0 && (a0_1 == a1_1)) = true := by simpa using c3))
    clear c3
    by_cases c4 : a0_2 = a1_2
    · rw [if_pos c4] at H
      have c4b0 : (a0_2 == a1_2) = true := beq_iff_eq.mpr c4
      have c4b1 : (a0_2 != a1_2) = false := bne_eq_false_iff_eq.mpr c4
      clear c4
      by_cases c5 : a0_10 = a1_10
      · rw [if_pos c5] at H
        have c5b0 : (a0_10 == a1_10) = true := beq_iff_eq.mpr c5
        have c5b1 : (a0_10 != a1_10) = false := bne_eq_false_iff_eq.mpr c5
        clear c5
        replace H := Option.bind_eq_some_iff.mp H
        obtain ⟨t189, A60, H⟩ := H
        replace H : (some t189) = some r := H
        have A6 := Aside0.mk A60
        clear A60
        obtain rfl := Option.some.inj H
        go_enter Try.func32, Try.ntmps32
        go_wp2_with (first | ((with_reducible refine gate_dst (N := 2) rfl ?_); refine box_event ?hg (N := 2) ?hd (cs := #[.int .u32 a0_0, .int .i64 a0_1, .int .i64 a0_2, .int .i64 a0_3, .slice A0_4 l0_4.length c0_4, .int .u32 a0_5, .int .i64 a0_6, .int .i64 a0_7, .slice A0_8 l0_8.length c0_8, .slice A0_9 l0_9.length c0_9, .int .i64 a0_10]) (t := 48) ?hr ?_; (case hd => rfl); (case hg => rfl); (case hr => first | (go_simp; done) | (go_simp; rfl) | (go_simp; simp [IntKind.wrap_u8, IntKind.wrap_u32]; done)); intro gb187 hg w7 hbox hb; have n0_ := Aside0.mk (below_step (by repeat (first | (with_reducible first | exact HB.out | apply below_alloc | apply pw_below_drewN | apply below_drew1) | exact HB.out)) hb); have n1_ := Aside0.mk (hbox); have n2_ := Aside0.mk ((by rw [hg]; exact (below_size (by repeat (first | (with_reducible first | exact HB.out | apply below_alloc | apply pw_below_drewN | apply below_drew1) | exact HB.out))) : w.heap.size ≤ gb187)); have n3_ := Aside0.mk ((by rw [hg]; exact (below_size (by repeat (first | (with_reducible first | exact HB.out | apply below_alloc | apply pw_below_drewN | apply below_drew1) | exact HB.out))) : w.heap.size ≤ gb187)); clear HB; have HB := n0_; have BK187 := n1_; have GW187 := n2_; have GE187 := n3_; clear n0_ n1_ n2_ n3_; clear hb hbox hg) | ((with_reducible refine gate_dst (N := 3) rfl ?_); refine box_event ?hg (N := 3) ?hd (cs := #[.int .u32 a1_0, .int .i64 a1_1, .int .i64 a1_2, .int .i64 a1_3, .slice A1_4 l1_4.length c1_4, .int .u32 a1_5, .int .i64 a1_6, .int .i64 a1_7, .slice A1_8 l1_8.length c1_8, .slice A1_9 l1_9.length c1_9, .int .i64 a1_10]) (t := 48) ?hr ?_; (case hd => rfl); (case hg => rfl); (case hr => first | (go_simp; done) | (go_simp; rfl) | (go_simp; simp [IntKind.wrap_u8, IntKind.wrap_u32]; done)); intro gb188 hg w8 hbox hb; have n0_ := Aside0.mk (blk_below (g := gb187) (o := .cells #[.int .u32 a0_0, .int .i64 a0_1, .int .i64 a0_2, .int .i64 a0_3, .slice A0_4 l0_4.length c0_4, .int .u32 a0_5, .int .i64 a0_6, .int .i64 a0_7, .slice A0_8 l0_8.length c0_8, .slice A0_9 l0_9.length c0_9, .int .i64 a0_10] 48 (0, 0)) (by (with_reducible repeat (first | refine blk_drewN ?_ _ | refine blk_drew ?_ | refine blk_alloc ?_ _)); exact BK187.out) hb); have n1_ := Aside0.mk (below_step (by repeat (first | (with_reducible first | exact HB.out | apply below_alloc | apply pw_below_drewN | apply below_drew1 | refine below_set ?_ GE187.out) | exact HB.out)) hb); have n2_ := Aside0.mk (hbox); have n3_ := Aside0.mk ((by rw [hg]; exact (below_size (by repeat (first | (with_reducible first | exact HB.out | apply below_alloc | apply pw_below_drewN | apply below_drew1 | refine below_set ?_ GE187.out) | exact HB.out))) : w.heap.size ≤ gb188)); have n4_ := Aside0.mk ((by rw [hg]; exact (below_size (by repeat (first | (with_reducible first | exact HB.out | apply below_alloc | apply pw_below_drewN | apply below_drew1 | refine below_set ?_ GE187.out) | exact HB.out))) : w.heap.size ≤ gb188)); have n5_ := Aside0.mk ((by rw [hg]; exact Nat.ne_of_lt (blk_lt (g := gb187) (o := .cells #[.int .u32 a0_0, .int .i64 a0_1, .int .i64 a0_2, .int .i64 a0_3, .slice A0_4 l0_4.length c0_4, .int .u32 a0_5, .int .i64 a0_6, .int .i64 a0_7, .slice A0_8 l0_8.length c0_8, .slice A0_9 l0_9.length c0_9, .int .i64 a0_10] 48 (0, 0)) (by (with_reducible repeat (first | refine blk_drewN ?_ _ | refine blk_drew ?_ | refine blk_alloc ?_ _)); exact BK187.out)) : gb187 ≠ gb188)); have n6_ := Aside0.mk ((by rw [hg]; exact Nat.ne_of_gt (blk_lt (g := gb187) (o := .cells #[.int .u32 a0_0, .int .i64 a0_1, .int .i64 a0_2, .int .i64 a0_3, .slice A0_4 l0_4.length c0_4, .int .u32 a0_5, .int .i64 a0_6, .int .i64 a0_7, .slice A0_8 l0_8.length c0_8, .slice A0_9 l0_9.length c0_9, .int .i64 a0_10] 48 (0, 0)) (by (with_reducible repeat (first | refine blk_drewN ?_ _ | refine blk_drew ?_ | refine blk_alloc ?_ _)); exact BK187.out)) : gb188 ≠ gb187)); clear BK187; clear HB; have BK187 := n0_; have HB := n1_; have BK188 := n2_; have GW188 := n3_; have GE188 := n4_; have NB187_188 := n5_; have NB188_187 := n6_; clear n0_ n1_ n2_ n3_ n4_ n5_ n6_; clear hb hbox hg; have hnb9 := NB187_188.out; have hnc9 := NB188_187.out; have hcz10_0 : w8.cell? ⟨gb187, 0, none⟩ = some (.int .u32 a0_0) := (blk_cell BK187.out 0).trans rfl; have hcz10_1 : w8.cell? ⟨gb187, 1, none⟩ = some (.int .i64 a0_1) := (blk_cell BK187.out 1).trans rfl; have hcz10_2 : w8.cell? ⟨gb187, 2, none⟩ = some (.int .i64 a0_2) := (blk_cell BK187.out 2).trans rfl; have hcz10_3 : w8.cell? ⟨gb187, 3, none⟩ = some (.int .i64 a0_3) := (blk_cell BK187.out 3).trans rfl; have hcz10_4 : w8.cell? ⟨gb187, 4, none⟩ = some (.slice A0_4 l0_4.length c0_4) := (blk_cell BK187.out 4).trans rfl; have hcz10_5 : w8.cell? ⟨gb187, 5, none⟩ = some (.int .u32 a0_5) := (blk_cell BK187.out 5).trans rfl; have hcz10_6 : w8.cell? ⟨gb187, 6, none⟩ = some (.int .i64 a0_6) := (blk_cell BK187.out 6).trans rfl; have hcz10_7 : w8.cell? ⟨gb187, 7, none⟩ = some (.int .i64 a0_7) := (blk_cell BK187.out 7).trans rfl; have hcz10_8 : w8.cell? ⟨gb187, 8, none⟩ = some (.slice A0_8 l0_8.length c0_8) := (blk_cell BK187.out 8).trans rfl; have hcz10_9 : w8.cell? ⟨gb187, 9, none⟩ = some (.slice A0_9 l0_9.length c0_9) := (blk_cell BK187.out 9).trans rfl; have hcz10_10 : w8.cell? ⟨gb187, 10, none⟩ = some (.int .i64 a0_10) := (blk_cell BK187.out 10).trans rfl; have hfz10_0 := blk_frozen BK187.out 0; have hfz10_1 := blk_frozen BK187.out 1; have hfz10_2 := blk_frozen BK187.out 2; have hfz10_3 := blk_frozen BK187.out 3; have hfz10_4 := blk_frozen BK187.out 4; have hfz10_5 := blk_frozen BK187.out 5; have hfz10_6 := blk_frozen BK187.out 6; have hfz10_7 := blk_frozen BK187.out 7; have hfz10_8 := blk_frozen BK187.out 8; have hfz10_9 := blk_frozen BK187.out 9; have hfz10_10 := blk_frozen BK187.out 10; have hcz11_0 : w8.cell? ⟨gb188, 0, none⟩ = some (.int .u32 a1_0) := (blk_cell BK188.out 0).trans rfl; have hcz11_1 : w8.cell? ⟨gb188, 1, none⟩ = some (.int .i64 a1_1) := (blk_cell BK188.out 1).trans rfl; have hcz11_2 : w8.cell? ⟨gb188, 2, none⟩ = some (.int .i64 a1_2) := (blk_cell BK188.out 2).trans rfl; have hcz11_3 : w8.cell? ⟨gb188, 3, none⟩ = some (.int .i64 a1_3) := (blk_cell BK188.out 3).trans rfl; have hcz11_4 : w8.cell? ⟨gb188, 4, none⟩ = some (.slice A1_4 l1_4.length c1_4) := (blk_cell BK188.out 4).trans rfl; have hcz11_5 : w8.cell? ⟨gb188, 5, none⟩ = some (.int .u32 a1_5) := (blk_cell BK188.out 5).trans rfl; have hcz11_6 : w8.cell? ⟨gb188, 6, none⟩ = some (.int .i64 a1_6) := (blk_cell BK188.out 6).trans rfl; have hcz11_7 : w8.cell? ⟨gb188, 7, none⟩ = some (.int .i64 a1_7) := (blk_cell BK188.out 7).trans rfl; have hcz11_8 : w8.cell? ⟨gb188, 8, none⟩ = some (.slice A1_8 l1_8.length c1_8) := (blk_cell BK188.out 8).trans rfl; have hcz11_9 : w8.cell? ⟨gb188, 9, none⟩ = some (.slice A1_9 l1_9.length c1_9) := (blk_cell BK188.out 9).trans rfl; have hcz11_10 : w8.cell? ⟨gb188, 10, none⟩ = some (.int .i64 a1_10) := (blk_cell BK188.out 10).trans rfl; have hfz11_0 := blk_frozen BK188.out 0; have hfz11_1 := blk_frozen BK188.out 1; have hfz11_2 := blk_frozen BK188.out 2; have hfz11_3 := blk_frozen BK188.out 3; have hfz11_4 := blk_frozen BK188.out 4; have hfz11_5 := blk_frozen BK188.out 5; have hfz11_6 := blk_frozen BK188.out 6; have hfz11_7 := blk_frozen BK188.out 7; have hfz11_8 := blk_frozen BK188.out 8; have hfz11_9 := blk_frozen BK188.out 9; have hfz11_10 := blk_frozen BK188.out 10) | (go_at_call 51; (with_reducible refine (interregnumref05_SameAttrs.calls k a0_3 _ _ l0_4 a0_5 a0_6 a0_7 _ _ l0_8 _ _ l0_9 a1_3 _ _ l1_4 a1_5 a1_6 a1_7 _ _ l1_8 _ _ l1_9 t189 _ ?side1 ?side2 ?side3 ?side4 ?side5 ?side6 ?side7 ?side8 ?side9 ?side10 ?side11 ?side12 A6.out).mono ?_); (case side1 => repeat (first | exact (Kd.C_below HR0_4.out HB.out) | (with_reducible refine Kd.C_alloc ?_ _) | (with_reducible refine Kd.C_drewN ?_ _) | (with_reducible refine Kd.C_drew ?_))); (case side2 => exact HC0_4.out); (case side3 => repeat (first | exact (Kd.C_below HR0_8.out HB.out) | (with_reducible refine Kd.C_alloc ?_ _) | (with_reducible refine Kd.C_drewN ?_ _) | (with_reducible refine Kd.C_drew ?_))); (case side4 => exact HC0_8.out); (case side5 => repeat (first | exact (Kd.C_below HR0_9.out HB.out) | (with_reducible refine Kd.C_alloc ?_ _) | (with_reducible refine Kd.C_drewN ?_ _) | (with_reducible refine Kd.C_drew ?_))); (case side6 => exact HC0_9.out); (case side7 => repeat (first | exact (Kd.C_below HR1_4.out HB.out) | (with_reducible refine Kd.C_alloc ?_ _) | (with_reducible refine Kd.C_drewN ?_ _) | (with_reducible refine Kd.C_drew ?_))); (case side8 => exact HC1_4.out); (case side9 => repeat (first | exact (Kd.C_below HR1_8.out HB.out) | (with_reducible refine Kd.C_alloc ?_ _) | (with_reducible refine Kd.C_drewN ?_ _) | (with_reducible refine Kd.C_drew ?_))); (case side10 => exact HC1_8.out); (case side11 => repeat (first | exact (Kd.C_below HR1_9.out HB.out) | (with_reducible refine Kd.C_alloc ?_ _) | (with_reducible refine Kd.C_drewN ?_ _) | (with_reducible refine Kd.C_drew ?_))); (case side12 => exact HC1_9.out); rintro e w12 ⟨rfl, hb⟩; have n0_ := Aside0.mk (blk_below (g := gb187) (o := .cells #[.int .u32 a0_0, .int .i64 a0_1, .int .i64 a0_2, .int .i64 a0_3, .slice A0_4 l0_4.length c0_4, .int .u32 a0_5, .int .i64 a0_6, .int .i64 a0_7, .slice A0_8 l0_8.length c0_8, .slice A0_9 l0_9.length c0_9, .int .i64 a0_10] 48 (0, 0)) (by (with_reducible repeat (first | refine blk_drewN ?_ _ | refine blk_drew ?_ | refine blk_alloc ?_ _)); exact BK187.out) hb); have n1_ := Aside0.mk (blk_below (g := gb188) (o := .cells #[.int .u32 a1_0, .int .i64 a1_1, .int .i64 a1_2, .int .i64 a1_3, .slice A1_4 l1_4.length c1_4, .int .u32 a1_5, .int .i64 a1_6, .int .i64 a1_7, .slice A1_8 l1_8.length c1_8, .slice A1_9 l1_9.length c1_9, .int .i64 a1_10] 48 (0, 0)) (by (with_reducible repeat (first | refine blk_drewN ?_ _ | refine blk_drew ?_ | refine blk_alloc ?_ _)); exact BK188.out) hb); have n2_ := Aside0.mk (below_step (by repeat (first | (with_reducible first | exact HB.out | apply below_alloc | apply pw_below_drewN | apply below_drew1 | refine below_set ?_ GE187.out | refine below_set ?_ GE188.out) | exact HB.out)) hb); clear BK187; clear BK188; clear HB; have BK187 := n0_; have BK188 := n1_; have HB := n2_; clear n0_ n1_ n2_; (try clear hb); (try clear hb2); (try clear hk); (try clear hi)))
        go_ret
        exact ⟨by first | rfl | (simp [errW_none, errW_some] <;> rfl) | (simp [*, errW_none, errW_some] <;> rfl), by repeat (first | (with_reducible first | exact HB.out | apply below_alloc | apply pw_below_drewN | apply below_drew1 | refine below_set ?_ GE187.out | refine below_set ?_ GE188.out) | exact HB.out)⟩
      · rw [if_neg c5] at H
        have c5b0 : (a0_10 == a1_10) = false := beq_eq_false_iff_ne.mpr c5
        have c5b1 : (a0_10 != a1_10) = true := bne_iff_ne.mpr c5
        obtain rfl := Option.some.inj H
        go_enter Try.func32, Try.ntmps32
        go_wp2_with (first | ((with_reducible refine gate_dst (N := 2) rfl ?_); refine box_event ?hg (N := 2) ?hd (cs := #[.int .u32 a0_0, .int .i64 a0_1, .int .i64 a0_2, .int .i64 a0_3, .slice A0_4 l0_4.length c0_4, .int .u32 a0_5, .int .i64 a0_6, .int .i64 a0_7, .slice A0_8 l0_8.length c0_8, .slice A0_9 l0_9.length c0_9, .int .i64 a0_10]) (t := 48) ?hr ?_; (case hd => rfl); (case hg => rfl); (case hr => first | (go_simp; done) | (go_simp; rfl) | (go_simp; simp [IntKind.wrap_u8, IntKind.wrap_u32]; done)); intro gb187 hg w13 hbox hb; have n0_ := Aside0.mk (below_step (by repeat (first | (with_reducible first | exact HB.out | apply below_alloc | apply pw_below_drewN | apply below_drew1) | exact HB.out)) hb); have n1_ := Aside0.mk (hbox); have n2_ := Aside0.mk ((by rw [hg]; exact (below_size (by repeat (first | (with_reducible first | exact HB.out | apply below_alloc | apply pw_below_drewN | apply below_drew1) | exact HB.out))) : w.heap.size ≤ gb187)); have n3_ := Aside0.mk ((by rw [hg]; exact (below_size (by repeat (first | (with_reducible first | exact HB.out | apply below_alloc | apply pw_below_drewN | apply below_drew1) | exact HB.out))) : w.heap.size ≤ gb187)); clear HB; have HB := n0_; have BK187 := n1_; have GW187 := n2_; have GE187 := n3_; clear n0_ n1_ n2_ n3_; clear hb hbox hg) | ((with_reducible refine gate_dst (N := 3) rfl ?_); refine box_event ?hg (N := 3) ?hd (cs := #[.int .u32 a1_0, .int .i64 a1_1, .int .i64 a1_2, .int .i64 a1_3, .slice A1_4 l1_4.length c1_4, .int .u32 a1_5, .int .i64 a1_6, .int .i64 a1_7, .slice A1_8 l1_8.length c1_8, .slice A1_9 l1_9.length c1_9, .int .i64 a1_10]) (t := 48) ?hr ?_; (case hd => rfl); (case hg => rfl); (case hr => first | (go_simp; done) | (go_simp; rfl) | (go_simp; simp [IntKind.wrap_u8, IntKind.wrap_u32]; done)); intro gb188 hg w14 hbox hb; have n0_ := Aside0.mk (blk_below (g := gb187) (o := .cells #[.int .u32 a0_0, .int .i64 a0_1, .int .i64 a0_2, .int .i64 a0_3, .slice A0_4 l0_4.length c0_4, .int .u32 a0_5, .int .i64 a0_6, .int .i64 a0_7, .slice A0_8 l0_8.length c0_8, .slice A0_9 l0_9.length c0_9, .int .i64 a0_10] 48 (0, 0)) (by (with_reducible repeat (first | refine blk_drewN ?_ _ | refine blk_drew ?_ | refine blk_alloc ?_ _)); exact BK187.out) hb); have n1_ := Aside0.mk (below_step (by repeat (first | (with_reducible first | exact HB.out | apply below_alloc | apply pw_below_drewN | apply below_drew1 | refine below_set ?_ GE187.out) | exact HB.out)) hb); have n2_ := Aside0.mk (hbox); have n3_ := Aside0.mk ((by rw [hg]; exact (below_size (by repeat (first | (with_reducible first | exact HB.out | apply below_alloc | apply pw_below_drewN | apply below_drew1 | refine below_set ?_ GE187.out) | exact HB.out))) : w.heap.size ≤ gb188)); have n4_ := Aside0.mk ((by rw [hg]; exact (below_size (by repeat (first | (with_reducible first | exact HB.out | apply below_alloc | apply pw_below_drewN | apply below_drew1 | refine below_set ?_ GE187.out) | exact HB.out))) : w.heap.size ≤ gb188)); have n5_ := Aside0.mk ((by rw [hg]; exact Nat.ne_of_lt (blk_lt (g := gb187) (o := .cells #[.int .u32 a0_0, .int .i64 a0_1, .int .i64 a0_2, .int .i64 a0_3, .slice A0_4 l0_4.length c0_4, .int .u32 a0_5, .int .i64 a0_6, .int .i64 a0_7, .slice A0_8 l0_8.length c0_8, .slice A0_9 l0_9.length c0_9, .int .i64 a0_10] 48 (0, 0)) (by (with_reducible repeat (first | refine blk_drewN ?_ _ | refine blk_drew ?_ | refine blk_alloc ?_ _)); exact BK187.out)) : gb187 ≠ gb188)); have n6_ := Aside0.mk ((by rw [hg]; exact Nat.ne_of_gt (blk_lt (g := gb187) (o := .cells #[.int .u32 a0_0, .int .i64 a0_1, .int .i64 a0_2, .int .i64 a0_3, .slice A0_4 l0_4.length c0_4, .int .u32 a0_5, .int .i64 a0_6, .int .i64 a0_7, .slice A0_8 l0_8.length c0_8, .slice A0_9 l0_9.length c0_9, .int .i64 a0_10] 48 (0, 0)) (by (with_reducible repeat (first | refine blk_drewN ?_ _ | refine blk_drew ?_ | refine blk_alloc ?_ _)); exact BK187.out)) : gb188 ≠ gb187)); clear BK187; clear HB; have BK187 := n0_; have HB := n1_; have BK188 := n2_; have GW188 := n3_; have GE188 := n4_; have NB187_188 := n5_; have NB188_187 := n6_; clear n0_ n1_ n2_ n3_ n4_ n5_ n6_; clear hb hbox hg; have hnb15 := NB187_188.out; have hnc15 := NB188_187.out; have hcz16_0 : w14.cell? ⟨gb187, 0, none⟩ = some (.int .u32 a0_0) := (blk_cell BK187.out 0).trans rfl; have hcz16_1 : w14.cell? ⟨gb187, 1, none⟩ = some (.int .i64 a0_1) := (blk_cell BK187.out 1).trans rfl; have hcz16_2 : w14.cell? ⟨gb187, 2, none⟩ = some (.int .i64 a0_2) := (blk_cell BK187.out 2).trans rfl; have hcz16_3 : w14.cell? ⟨gb187, 3, none⟩ = some (.int .i64 a0_3) := (blk_cell BK187.out 3).trans rfl; have hcz16_4 : w14.cell? ⟨gb187, 4, none⟩ = some (.slice A0_4 l0_4.length c0_4) := (blk_cell BK187.out 4).trans rfl; have hcz16_5 : w14.cell? ⟨gb187, 5, none⟩ = some (.int .u32 a0_5) := (blk_cell BK187.out 5).trans rfl; have hcz16_6 : w14.cell? ⟨gb187, 6, none⟩ = some (.int .i64 a0_6) := (blk_cell BK187.out 6).trans rfl; have hcz16_7 : w14.cell? ⟨gb187, 7, none⟩ = some (.int .i64 a0_7) := (blk_cell BK187.out 7).trans rfl; have hcz16_8 : w14.cell? ⟨gb187, 8, none⟩ = some (.slice A0_8 l0_8.length c0_8) := (blk_cell BK187.out 8).trans rfl; have hcz16_9 : w14.cell? ⟨gb187, 9, none⟩ = some (.slice A0_9 l0_9.length c0_9) := (blk_cell BK187.out 9).trans rfl; have hcz16_10 : w14.cell? ⟨gb187, 10, none⟩ = some (.int .i64 a0_10) := (blk_cell BK187.out 10).trans rfl; have hfz16_0 := blk_frozen BK187.out 0; have hfz16_1 := blk_frozen BK187.out 1; have hfz16_2 := blk_frozen BK187.out 2; have hfz16_3 := blk_frozen BK187.out 3; have hfz16_4 := blk_frozen BK187.out 4; have hfz16_5 := blk_frozen BK187.out 5; have hfz16_6 := blk_frozen BK187.out 6; have hfz16_7 := blk_frozen BK187.out 7; have hfz16_8 := blk_frozen BK187.out 8; have hfz16_9 := blk_frozen BK187.out 9; have hfz16_10 := blk_frozen BK187.out 10; have hcz17_0 : w14.cell? ⟨gb188, 0, none⟩ = some (.int .u32 a1_0) := (blk_cell BK188.out 0).trans rfl; have hcz17_1 : w14.cell? ⟨gb188, 1, none⟩ = some (.int .i64 a1_1) := (blk_cell BK188.out 1).trans rfl; have hcz17_2 : w14.cell? ⟨gb188, 2, none⟩ = some (.int .i64 a1_2) := (blk_cell BK188.out 2).trans rfl; have hcz17_3 : w14.cell? ⟨gb188, 3, none⟩ = some (.int .i64 a1_3) := (blk_cell BK188.out 3).trans rfl; have hcz17_4 : w14.cell? ⟨gb188, 4, none⟩ = some (.slice A1_4 l1_4.length c1_4) := (blk_cell BK188.out 4).trans rfl; have hcz17_5 : w14.cell? ⟨gb188, 5, none⟩ = some (.int .u32 a1_5) := (blk_cell BK188.out 5).trans rfl; have hcz17_6 : w14.cell? ⟨gb188, 6, none⟩ = some (.int .i64 a1_6) := (blk_cell BK188.out 6).trans rfl; have hcz17_7 : w14.cell? ⟨gb188, 7, none⟩ = some (.int .i64 a1_7) := (blk_cell BK188.out 7).trans rfl; have hcz17_8 : w14.cell? ⟨gb188, 8, none⟩ = some (.slice A1_8 l1_8.length c1_8) := (blk_cell BK188.out 8).trans rfl; have hcz17_9 : w14.cell? ⟨gb188, 9, none⟩ = some (.slice A1_9 l1_9.length c1_9) := (blk_cell BK188.out 9).trans rfl; have hcz17_10 : w14.cell? ⟨gb188, 10, none⟩ = some (.int .i64 a1_10) := (blk_cell BK188.out 10).trans rfl; have hfz17_0 := blk_frozen BK188.out 0; have hfz17_1 := blk_frozen BK188.out 1; have hfz17_2 := blk_frozen BK188.out 2; have hfz17_3 := blk_frozen BK188.out 3; have hfz17_4 := blk_frozen BK188.out 4; have hfz17_5 := blk_frozen BK188.out 5; have hfz17_6 := blk_frozen BK188.out 6; have hfz17_7 := blk_frozen BK188.out 7; have hfz17_8 := blk_frozen BK188.out 8; have hfz17_9 := blk_frozen BK188.out 9; have hfz17_10 := blk_frozen BK188.out 10))
        go_ret
        exact ⟨by first | rfl | (simp [errW_none, errW_some] <;> rfl) | (simp [*, errW_none, errW_some] <;> rfl), by repeat (first | (with_reducible first | exact HB.out | apply below_alloc | apply pw_below_drewN | apply below_drew1 | refine below_set ?_ GE187.out | refine below_set ?_ GE188.out) | exact HB.out)⟩
    · rw [if_neg c4] at H
      have c4b0 : (a0_2 == a1_2) = false := beq_eq_false_iff_ne.mpr c4
      have c4b1 : (a0_2 != a1_2) = true := bne_iff_ne.mpr c4
      obtain rfl := Option.some.inj H
      go_enter Try.func32, Try.ntmps32
      go_wp2_with (first | ((with_reducible refine gate_dst (N := 2) rfl ?_); refine box_event ?hg (N := 2) ?hd (cs := #[.int .u32 a0_0, .int .i64 a0_1, .int .i64 a0_2, .int .i64 a0_3, .slice A0_4 l0_4.length c0_4, .int .u32 a0_5, .int .i64 a0_6, .int .i64 a0_7, .slice A0_8 l0_8.length c0_8, .slice A0_9 l0_9.length c0_9, .int .i64 a0_10]) (t := 48) ?hr ?_; (case hd => rfl); (case hg => rfl); (case hr => first | (go_simp; done) | (go_simp; rfl) | (go_simp; simp [IntKind.wrap_u8, IntKind.wrap_u32]; done)); intro gb187 hg w18 hbox hb; have n0_ := Aside0.mk (below_step (by repeat (first | (with_reducible first | exact HB.out | apply below_alloc | apply pw_below_drewN | apply below_drew1) | exact HB.out)) hb); have n1_ := Aside0.mk (hbox); have n2_ := Aside0.mk ((by rw [hg]; exact (below_size (by repeat (first | (with_reducible first | exact HB.out | apply below_alloc | apply pw_below_drewN | apply below_drew1) | exact HB.out))) : w.heap.size ≤ gb187)); have n3_ := Aside0.mk ((by rw [hg]; exact (below_size (by repeat (first | (with_reducible first | exact HB.out | apply below_alloc | apply pw_below_drewN | apply below_drew1) | exact HB.out))) : w.heap.size ≤ gb187)); clear HB; have HB := n0_; have BK187 := n1_; have GW187 := n2_; have GE187 := n3_; clear n0_ n1_ n2_ n3_; clear hb hbox hg) | ((with_reducible refine gate_dst (N := 3) rfl ?_); refine box_event ?hg (N := 3) ?hd (cs := #[.int .u32 a1_0, .int .i64 a1_1, .int .i64 a1_2, .int .i64 a1_3, .slice A1_4 l1_4.length c1_4, .int .u32 a1_5, .int .i64 a1_6, .int .i64 a1_7, .slice A1_8 l1_8.length c1_8, .slice A1_9 l1_9.length c1_9, .int .i64 a1_10]) (t := 48) ?hr ?_; (case hd => rfl); (case hg => rfl); (case hr => first | (go_simp; done) | (go_simp; rfl) | (go_simp; simp [IntKind.wrap_u8, IntKind.wrap_u32]; done)); intro gb188 hg w19 hbox hb; have n0_ := Aside0.mk (blk_below (g := gb187) (o := .cells #[.int .u32 a0_0, .int .i64 a0_1, .int .i64 a0_2, .int .i64 a0_3, .slice A0_4 l0_4.length c0_4, .int .u32 a0_5, .int .i64 a0_6, .int .i64 a0_7, .slice A0_8 l0_8.length c0_8, .slice A0_9 l0_9.length c0_9, .int .i64 a0_10] 48 (0, 0)) (by (with_reducible repeat (first | refine blk_drewN ?_ _ | refine blk_drew ?_ | refine blk_alloc ?_ _)); exact BK187.out) hb); have n1_ := Aside0.mk (below_step (by repeat (first | (with_reducible first | exact HB.out | apply below_alloc | apply pw_below_drewN | apply below_drew1 | refine below_set ?_ GE187.out) | exact HB.out)) hb); have n2_ := Aside0.mk (hbox); have n3_ := Aside0.mk ((by rw [hg]; exact (below_size (by repeat (first | (with_reducible first | exact HB.out | apply below_alloc | apply pw_below_drewN | apply below_drew1 | refine below_set ?_ GE187.out) | exact HB.out))) : w.heap.size ≤ gb188)); have n4_ := Aside0.mk ((by rw [hg]; exact (below_size (by repeat (first | (with_reducible first | exact HB.out | apply below_alloc | apply pw_below_drewN | apply below_drew1 | refine below_set ?_ GE187.out) | exact HB.out))) : w.heap.size ≤ gb188)); have n5_ := Aside0.mk ((by rw [hg]; exact Nat.ne_of_lt (blk_lt (g := gb187) (o := .cells #[.int .u32 a0_0, .int .i64 a0_1, .int .i64 a0_2, .int .i64 a0_3, .slice A0_4 l0_4.length c0_4, .int .u32 a0_5, .int .i64 a0_6, .int .i64 a0_7, .slice A0_8 l0_8.length c0_8, .slice A0_9 l0_9.length c0_9, .int .i64 a0_10] 48 (0, 0)) (by (with_reducible repeat (first | refine blk_drewN ?_ _ | refine blk_drew ?_ | refine blk_alloc ?_ _)); exact BK187.out)) : gb187 ≠ gb188)); have n6_ := Aside0.mk ((by rw [hg]; exact Nat.ne_of_gt (blk_lt (g := gb187) (o := .cells #[.int .u32 a0_0, .int .i64 a0_1, .int .i64 a0_2, .int .i64 a0_3, .slice A0_4 l0_4.length c0_4, .int .u32 a0_5, .int .i64 a0_6, .int .i64 a0_7, .slice A0_8 l0_8.length c0_8, .slice A0_9 l0_9.length c0_9, .int .i64 a0_10] 48 (0, 0)) (by (with_reducible repeat (first | refine blk_drewN ?_ _ | refine blk_drew ?_ | refine blk_alloc ?_ _)); exact BK187.out)) : gb188 ≠ gb187)); clear BK187; clear HB; have BK187 := n0_; have HB := n1_; have BK188 := n2_; have GW188 := n3_; have GE188 := n4_; have NB187_188 := n5_; have NB188_187 := n6_; clear n0_ n1_ n2_ n3_ n4_ n5_ n6_; clear hb hbox hg; have hnb20 := NB187_188.out; have hnc20 := NB188_187.out; have hcz21_0 : w19.cell? ⟨gb187, 0, none⟩ = some (.int .u32 a0_0) := (blk_cell BK187.out 0).trans rfl; have hcz21_1 : w19.cell? ⟨gb187, 1, none⟩ = some (.int .i64 a0_1) := (blk_cell BK187.out 1).trans rfl; have hcz21_2 : w19.cell? ⟨gb187, 2, none⟩ = some (.int .i64 a0_2) := (blk_cell BK187.out 2).trans rfl; have hcz21_3 : w19.cell? ⟨gb187, 3, none⟩ = some (.int .i64 a0_3) := (blk_cell BK187.out 3).trans rfl; have hcz21_4 : w19.cell? ⟨gb187, 4, none⟩ = some (.slice A0_4 l0_4.length c0_4) := (blk_cell BK187.out 4).trans rfl; have hcz21_5 : w19.cell? ⟨gb187, 5, none⟩ = some (.int .u32 a0_5) := (blk_cell BK187.out 5).trans rfl; have hcz21_6 : w19.cell? ⟨gb187, 6, none⟩ = some (.int .i64 a0_6) := (blk_cell BK187.out 6).trans rfl; have hcz21_7 : w19.cell? ⟨gb187, 7, none⟩ = some (.int .i64 a0_7) := (blk_cell BK187.out 7).trans rfl; have hcz21_8 : w19.cell? ⟨gb187, 8, none⟩ = some (.slice A0_8 l0_8.length c0_8) := (blk_cell BK187.out 8).trans rfl; have hcz21_9 : w19.cell? ⟨gb187, 9, none⟩ = some (.slice A0_9 l0_9.length c0_9) := (blk_cell BK187.out 9).trans rfl; have hcz21_10 : w19.cell? ⟨gb187, 10, none⟩ = some (.int .i64 a0_10) := (blk_cell BK187.out 10).trans rfl; have hfz21_0 := blk_frozen BK187.out 0; have hfz21_1 := blk_frozen BK187.out 1; have hfz21_2 := blk_frozen BK187.out 2; have hfz21_3 := blk_frozen BK187.out 3; have hfz21_4 := blk_frozen BK187.out 4; have hfz21_5 := blk_frozen BK187.out 5; have hfz21_6 := blk_frozen BK187.out 6; have hfz21_7 := blk_frozen BK187.out 7; have hfz21_8 := blk_frozen BK187.out 8; have hfz21_9 := blk_frozen BK187.out 9; have hfz21_10 := blk_frozen BK187.out 10; have hcz22_0 : w19.cell? ⟨gb188, 0, none⟩ = some (.int .u32 a1_0) := (blk_cell BK188.out 0).trans rfl; have hcz22_1 : w19.cell? ⟨gb188, 1, none⟩ = some (.int .i64 a1_1) := (blk_cell BK188.out 1).trans rfl; have hcz22_2 : w19.cell? ⟨gb188, 2, none⟩ = some (.int .i64 a1_2) := (blk_cell BK188.out 2).trans rfl; have hcz22_3 : w19.cell? ⟨gb188, 3, none⟩ = some (.int .i64 a1_3) := (blk_cell BK188.out 3).trans rfl; have hcz22_4 : w19.cell? ⟨gb188, 4, none⟩ = some (.slice A1_4 l1_4.length c1_4) := (blk_cell BK188.out 4).trans rfl; have hcz22_5 : w19.cell? ⟨gb188, 5, none⟩ = some (.int .u32 a1_5) := (blk_cell BK188.out 5).trans rfl; have hcz22_6 : w19.cell? ⟨gb188, 6, none⟩ = some (.int .i64 a1_6) := (blk_cell BK188.out 6).trans rfl; have hcz22_7 : w19.cell? ⟨gb188, 7, none⟩ = some (.int .i64 a1_7) := (blk_cell BK188.out 7).trans rfl; have hcz22_8 : w19.cell? ⟨gb188, 8, none⟩ = some (.slice A1_8 l1_8.length c1_8) := (blk_cell BK188.out 8).trans rfl; have hcz22_9 : w19.cell? ⟨gb188, 9, none⟩ = some (.slice A1_9 l1_9.length c1_9) := (blk_cell BK188.out 9).trans rfl; have hcz22_10 : w19.cell? ⟨gb188, 10, none⟩ = some (.int .i64 a1_10) := (blk_cell BK188.out 10).trans rfl; have hfz22_0 := blk_frozen BK188.out 0; have hfz22_1 := blk_frozen BK188.out 1; have hfz22_2 := blk_frozen BK188.out 2; have hfz22_3 := blk_frozen BK188.out 3; have hfz22_4 := blk_frozen BK188.out 4; have hfz22_5 := blk_frozen BK188.out 5; have hfz22_6 := blk_frozen BK188.out 6; have hfz22_7 := blk_frozen BK188.out 7; have hfz22_8 := blk_frozen BK188.out 8; have hfz22_9 := blk_frozen BK188.out 9; have hfz22_10 := blk_frozen BK188.out 10))
      go_ret
      exact ⟨by first | rfl | (simp [errW_none, errW_some] <;> rfl) | (simp [*, errW_none, errW_some] <;> rfl), by repeat (first | (with_reducible first | exact HB.out | apply below_alloc | apply pw_below_drewN | apply below_drew1 | refine below_set ?_ GE187.out | refine below_set ?_ GE188.out) | exact HB.out)⟩
  · rw [if_neg c3] at H
    have c3b0 : (a0_0 == a1_0 && (a0_1 == a1_1)) = false := by simpa using c3
    (try (have c3b1 : decide (a0_0 = a1_0 && (a0_1 == a1_1)) = false := by simpa using c3))
    (try (have c3b2 : (a0_0 == a1_0 && (a0_1 == a1_1)) = false := by simpa using c3))
    (try (have c3b3 : ¬ (a0_0 = a1_0 && (a0_1 == a1_1)) := by simpa using c3))
    clear c3
    obtain rfl := Option.some.inj H
    go_enter Try.func32, Try.ntmps32
    go_wp2_with (first | ((with_reducible refine gate_dst (N := 2) rfl ?_); refine box_event ?hg (N := 2) ?hd (cs := #[.int .u32 a0_0, .int .i64 a0_1, .int .i64 a0_2, .int .i64 a0_3, .slice A0_4 l0_4.length c0_4, .int .u32 a0_5, .int .i64 a0_6, .int .i64 a0_7, .slice A0_8 l0_8.length c0_8, .slice A0_9 l0_9.length c0_9, .int .i64 a0_10]) (t := 48) ?hr ?_; (case hd => rfl); (case hg => rfl); (case hr => first | (go_simp; done) | (go_simp; rfl) | (go_simp; simp [IntKind.wrap_u8, IntKind.wrap_u32]; done)); intro gb187 hg w23 hbox hb; have n0_ := Aside0.mk (below_step (by repeat (first | (with_reducible first | exact HB.out | apply below_alloc | apply pw_below_drewN | apply below_drew1) | exact HB.out)) hb); have n1_ := Aside0.mk (hbox); have n2_ := Aside0.mk ((by rw [hg]; exact (below_size (by repeat (first | (with_reducible first | exact HB.out | apply below_alloc | apply pw_below_drewN | apply below_drew1) | exact HB.out))) : w.heap.size ≤ gb187)); have n3_ := Aside0.mk ((by rw [hg]; exact (below_size (by repeat (first | (with_reducible first | exact HB.out | apply below_alloc | apply pw_below_drewN | apply below_drew1) | exact HB.out))) : w.heap.size ≤ gb187)); clear HB; have HB := n0_; have BK187 := n1_; have GW187 := n2_; have GE187 := n3_; clear n0_ n1_ n2_ n3_; clear hb hbox hg) | ((with_reducible refine gate_dst (N := 3) rfl ?_); refine box_event ?hg (N := 3) ?hd (cs := #[.int .u32 a1_0, .int .i64 a1_1, .int .i64 a1_2, .int .i64 a1_3, .slice A1_4 l1_4.length c1_4, .int .u32 a1_5, .int .i64 a1_6, .int .i64 a1_7, .slice A1_8 l1_8.length c1_8, .slice A1_9 l1_9.length c1_9, .int .i64 a1_10]) (t := 48) ?hr ?_; (case hd => rfl); (case hg => rfl); (case hr => first | (go_simp; done) | (go_simp; rfl) | (go_simp; simp [IntKind.wrap_u8, IntKind.wrap_u32]; done)); intro gb188 hg w24 hbox hb; have n0_ := Aside0.mk (blk_below (g := gb187) (o := .cells #[.int .u32 a0_0, .int .i64 a0_1, .int .i64 a0_2, .int .i64 a0_3, .slice A0_4 l0_4.length c0_4, .int .u32 a0_5, .int .i64 a0_6, .int .i64 a0_7, .slice A0_8 l0_8.length c0_8, .slice A0_9 l0_9.length c0_9, .int .i64 a0_10] 48 (0, 0)) (by (with_reducible repeat (first | refine blk_drewN ?_ _ | refine blk_drew ?_ | refine blk_alloc ?_ _)); exact BK187.out) hb); have n1_ := Aside0.mk (below_step (by repeat (first | (with_reducible first | exact HB.out | apply below_alloc | apply pw_below_drewN | apply below_drew1 | refine below_set ?_ GE187.out) | exact HB.out)) hb); have n2_ := Aside0.mk (hbox); have n3_ := Aside0.mk ((by rw [hg]; exact (below_size (by repeat (first | (with_reducible first | exact HB.out | apply below_alloc | apply pw_below_drewN | apply below_drew1 | refine below_set ?_ GE187.out) | exact HB.out))) : w.heap.size ≤ gb188)); have n4_ := Aside0.mk ((by rw [hg]; exact (below_size (by repeat (first | (with_reducible first | exact HB.out | apply below_alloc | apply pw_below_drewN | apply below_drew1 | refine below_set ?_ GE187.out) | exact HB.out))) : w.heap.size ≤ gb188)); have n5_ := Aside0.mk ((by rw [hg]; exact Nat.ne_of_lt (blk_lt (g := gb187) (o := .cells #[.int .u32 a0_0, .int .i64 a0_1, .int .i64 a0_2, .int .i64 a0_3, .slice A0_4 l0_4.length c0_4, .int .u32 a0_5, .int .i64 a0_6, .int .i64 a0_7, .slice A0_8 l0_8.length c0_8, .slice A0_9 l0_9.length c0_9, .int .i64 a0_10] 48 (0, 0)) (by (with_reducible repeat (first | refine blk_drewN ?_ _ | refine blk_drew ?_ | refine blk_alloc ?_ _)); exact BK187.out)) : gb187 ≠ gb188)); have n6_ := Aside0.mk ((by rw [hg]; exact Nat.ne_of_gt (blk_lt (g := gb187) (o := .cells #[.int .u32 a0_0, .int .i64 a0_1, .int .i64 a0_2, .int .i64 a0_3, .slice A0_4 l0_4.length c0_4, .int .u32 a0_5, .int .i64 a0_6, .int .i64 a0_7, .slice A0_8 l0_8.length c0_8, .slice A0_9 l0_9.length c0_9, .int .i64 a0_10] 48 (0, 0)) (by (with_reducible repeat (first | refine blk_drewN ?_ _ | refine blk_drew ?_ | refine blk_alloc ?_ _)); exact BK187.out)) : gb188 ≠ gb187)); clear BK187; clear HB; have BK187 := n0_; have HB := n1_; have BK188 := n2_; have GW188 := n3_; have GE188 := n4_; have NB187_188 := n5_; have NB188_187 := n6_; clear n0_ n1_ n2_ n3_ n4_ n5_ n6_; clear hb hbox hg; have hnb25 := NB187_188.out; have hnc25 := NB188_187.out; have hcz26_0 : w24.cell? ⟨gb187, 0, none⟩ = some (.int .u32 a0_0) := (blk_cell BK187.out 0).trans rfl; have hcz26_1 : w24.cell? ⟨gb187, 1, none⟩ = some (.int .i64 a0_1) := (blk_cell BK187.out 1).trans rfl; have hcz26_2 : w24.cell? ⟨gb187, 2, none⟩ = some (.int .i64 a0_2) := (blk_cell BK187.out 2).trans rfl; have hcz26_3 : w24.cell? ⟨gb187, 3, none⟩ = some (.int .i64 a0_3) := (blk_cell BK187.out 3).trans rfl; have hcz26_4 : w24.cell? ⟨gb187, 4, none⟩ = some (.slice A0_4 l0_4.length c0_4) := (blk_cell BK187.out 4).trans rfl; have hcz26_5 : w24.cell? ⟨gb187, 5, none⟩ = some (.int .u32 a0_5) := (blk_cell BK187.out 5).trans rfl; have hcz26_6 : w24.cell? ⟨gb187, 6, none⟩ = some (.int .i64 a0_6) := (blk_cell BK187.out 6).trans rfl; have hcz26_7 : w24.cell? ⟨gb187, 7, none⟩ = some (.int .i64 a0_7) := (blk_cell BK187.out 7).trans rfl; have hcz26_8 : w24.cell? ⟨gb187, 8, none⟩ = some (.slice A0_8 l0_8.length c0_8) := (blk_cell BK187.out 8).trans rfl; have hcz26_9 : w24.cell? ⟨gb187, 9, none⟩ = some (.slice A0_9 l0_9.length c0_9) := (blk_cell BK187.out 9).trans rfl; have hcz26_10 : w24.cell? ⟨gb187, 10, none⟩ = some (.int .i64 a0_10) := (blk_cell BK187.out 10).trans rfl; have hfz26_0 := blk_frozen BK187.out 0; have hfz26_1 := blk_frozen BK187.out 1; have hfz26_2 := blk_frozen BK187.out 2; have hfz26_3 := blk_frozen BK187.out 3; have hfz26_4 := blk_frozen BK187.out 4; have hfz26_5 := blk_frozen BK187.out 5; have hfz26_6 := blk_frozen BK187.out 6; have hfz26_7 := blk_frozen BK187.out 7; have hfz26_8 := blk_frozen BK187.out 8; have hfz26_9 := blk_frozen BK187.out 9; have hfz26_10 := blk_frozen BK187.out 10; have hcz27_0 : w24.cell? ⟨gb188, 0, none⟩ = some (.int .u32 a1_0) := (blk_cell BK188.out 0).trans rfl; have hcz27_1 : w24.cell? ⟨gb188, 1, none⟩ = some (.int .i64 a1_1) := (blk_cell BK188.out 1).trans rfl; have hcz27_2 : w24.cell? ⟨gb188, 2, none⟩ = some (.int .i64 a1_2) := (blk_cell BK188.out 2).trans rfl; have hcz27_3 : w24.cell? ⟨gb188, 3, none⟩ = some (.int .i64 a1_3) := (blk_cell BK188.out 3).trans rfl; have hcz27_4 : w24.cell? ⟨gb188, 4, none⟩ = some (.slice A1_4 l1_4.length c1_4) := (blk_cell BK188.out 4).trans rfl; have hcz27_5 : w24.cell? ⟨gb188, 5, none⟩ = some (.int .u32 a1_5) := (blk_cell BK188.out 5).trans rfl; have hcz27_6 : w24.cell? ⟨gb188, 6, none⟩ = some (.int .i64 a1_6) := (blk_cell BK188.out 6).trans rfl; have hcz27_7 : w24.cell? ⟨gb188, 7, none⟩ = some (.int .i64 a1_7) := (blk_cell BK188.out 7).trans rfl; have hcz27_8 : w24.cell? ⟨gb188, 8, none⟩ = some (.slice A1_8 l1_8.length c1_8) := (blk_cell BK188.out 8).trans rfl; have hcz27_9 : w24.cell? ⟨gb188, 9, none⟩ = some (.slice A1_9 l1_9.length c1_9) := (blk_cell BK188.out 9).trans rfl; have hcz27_10 : w24.cell? ⟨gb188, 10, none⟩ = some (.int .i64 a1_10) := (blk_cell BK188.out 10).trans rfl; have hfz27_0 := blk_frozen BK188.out 0; have hfz27_1 := blk_frozen BK188.out 1; have hfz27_2 := blk_frozen BK188.out 2; have hfz27_3 := blk_frozen BK188.out 3; have hfz27_4 := blk_frozen BK188.out 4; have hfz27_5 := blk_frozen BK188.out 5; have hfz27_6 := blk_frozen BK188.out 6; have hfz27_7 := blk_frozen BK188.out 7; have hfz27_8 := blk_frozen BK188.out 8; have hfz27_9 := blk_frozen BK188.out 9; have hfz27_10 := blk_frozen BK188.out 10))
    go_ret
    exact ⟨by first | rfl | (simp [errW_none, errW_some] <;> rfl) | (simp [*, errW_none, errW_some] <;> rfl), by repeat (first | (with_reducible first | exact HB.out | apply below_alloc | apply pw_below_drewN | apply below_drew1 | refine below_set ?_ GE187.out | refine below_set ?_ GE188.out) | exact HB.out)⟩

/-! ### interregnumlaw13_RouteMarks: function 7 -/
-- FN rounds=1 making=1
-- IMPORT Derived.ArgAppend
-- IMPORT Derived.Test.YtpkckkmgnlhhcaaHelp
-- IMPORT Derived.Test.YtpkckkmgnlhhcaaMid
-- IMPORT Derived.Test.YtpkckkmgnlhhcaaInts
open Go.Proofs.Ytpkckkmgnlhhcaa.Ints
/-- What becomes of a route that is marked. -/
def outOf (pa pl pe o : Int) (l1 : List S38) (nx md pr : Int) (l5 : List Int) (l6 : List S58) (a1 : Int) : Int × Int × Int × Int × List S38 × Int × Int × Int × List Int × List S58 × Int × Bool :=
  if a1 = 2 ∧ 4294901767 ∈ l5 then (0, 0, 0, 0, [], 0, 0, 0, [], [], 0, false)
  else (pa, pl, pe, o, l1, nx, md, pr, if a1 = 2 ∧ 4294901766 ∉ l5 ∧ l5.length < 32 then l5 ++ [4294901766] else l5, l6, a1, true)
set_option maxHeartbeats 4000000 in
set_option maxRecDepth 100000 in
theorem mark_any (k : Nat) (pa pl pe o : Int) (A1 : Option Addr) (c1 : Nat) (l1 : List S38) (nx md pr : Int) (A5 : Option Addr) (c5 : Nat) (l5 : List Int) (A6 : Option Addr) (c6 : Nat) (l6 : List S58) (st : Int) (a1 : Int) (r2 : List S38) (w : World)
    (hr1 : Kd.C k38 w A1 l1.length l1) (hc1 : l1.length ≤ c1) (hr5 : Kd.C (Kd.int .u32) w A5 l5.length l5) (hc5 : l5.length ≤ c5) (hr6 : Kd.C k58 w A6 l6.length l6) (hc6 : l6.length ≤ c6) (hp : path_Own.f k l1 = some r2) (h5 : slices_Clone_uint32_uint32.f l5 = some l5) (h6 : l6.length < 4000) (hd : ∀ r ∈ l6, bytes_Clone.f r.f2 = some r.f2) (h1 : route_Has.f k o l1 nx md pr l5 l6 4294901767 = some (decide (4294901767 ∈ l5))) (h2 : route_Has.f k o r2 nx md pr l5 l6 4294901766 = some (decide (4294901766 ∈ l5))) :
    Calls Try.prog 30 #[.agg #[.int .u32 pa, .int .i64 pl, .int .i64 pe, .int .i64 o, .slice A1 l1.length c1, .int .u32 nx, .int .i64 md, .int .i64 pr, .slice A5 l5.length c5, .slice A6 l6.length c6, .int .i64 st], .int .i64 a1] w fun e w' => ∃ (q0 q1 q2 q3 : Int) (B1 : Option Addr) (dq1 : Nat) (pq1 : List S38) (q5 q6 q7 : Int) (B5 : Option Addr) (dq5 : Nat) (pq5 : List Int) (B6 : Option Addr) (dq6 : Nat) (pq6 : List S58) (q10 : Int) (qb : Bool), e = .returned (.tuple #[.agg #[.int .u32 q0, .int .i64 q1, .int .i64 q2, .int .i64 q3, .slice B1 pq1.length dq1, .int .u32 q5, .int .i64 q6, .int .i64 q7, .slice B5 pq5.length dq5, .slice B6 pq6.length dq6, .int .i64 q10], .bool qb]) ∧ (pq1.length ≤ dq1 ∧ pq5.length ≤ dq5 ∧ pq6.length ≤ dq6) ∧ Kd.C k38 w' B1 pq1.length pq1 ∧ Kd.C (Kd.int .u32) w' B5 pq5.length pq5 ∧ Ints w.heap.size w' .u32 40 B5 pq5.length ∧ Kd.C k58 w' B6 pq6.length pq6 ∧ Below w.heap.size w w' ∧ outOf pa pl pe o r2 nx md pr l5 l6 a1 = (q0, q1, q2, q3, pq1, q5, q6, q7, pq5, pq6, q10, qb) := by
  by_cases ha : a1 = 2
  · subst ha
    by_cases h7 : (4294901767 : Int) ∈ l5
    · rw [decide_eq_true h7] at h1
      refine (mark_gone k pa pl pe o A1 c1 l1 nx md pr A5 c5 l5 A6 c6 l6 st w hr1 hc1 hr5 hc5 hr6 hc6 h1).mono ?_
      rintro e w1 ⟨rfl, hb⟩
      exact ⟨0, 0, 0, 0, none, 0, [], 0, 0, 0, none, 0, [], none, 0, [], 0, false, rfl, ⟨Nat.le_refl _, Nat.le_refl _, Nat.le_refl _⟩, Kd.C_nil _ _, Kd.C_nil _ _, Ints.zero _ _ _ _ _, Kd.C_nil _ _, hb, by unfold outOf; rw [if_pos ⟨rfl, h7⟩]⟩
    · rw [decide_eq_false h7] at h1
      by_cases h6' : (4294901766 : Int) ∈ l5
      · rw [decide_eq_true h6'] at h2
        refine (mark_has k pa pl pe o A1 c1 l1 nx md pr A5 c5 l5 A6 c6 l6 st r2 w hr1 hc1 hr5 hc5 hr6 hc6 hp h5 h6 hd h1 h2).mono ?_
        rintro e w1 ⟨B1, d1, B5, d5, B6, rfl, g1, g5, g2, g3, g4, g6, hb⟩
        exact ⟨_, _, _, _, _, _, _, _, _, _, _, _, _, _, _, _, _, _, rfl, ⟨g1, g5, Nat.le_refl _⟩, g2, g3, g4, g6, hb, by unfold outOf; rw [if_neg (fun h => h7 h.2), if_neg (fun h => h.2.1 h6')]⟩
      · rw [decide_eq_false h6'] at h2
        by_cases hn : l5.length < 32
        · refine (mark_more k pa pl pe o A1 c1 l1 nx md pr A5 c5 l5 A6 c6 l6 st r2 w hr1 hc1 hr5 hc5 hr6 hc6 hp h5 h6 hd h1 h2 hn).mono ?_
          rintro e w1 ⟨B1, d1, B5, d5, B6, rfl, g1, g5, g2, g3, g4, g6, hb⟩
          have hlen : (l5 ++ [4294901766] : List Int).length = l5.length + 1 := by simp
          rw [← hlen] at g3 g4 g5 ⊢
          exact ⟨_, _, _, _, _, _, _, _, _, _, _, _, _, _, _, _, _, _, rfl, ⟨g1, g5, Nat.le_refl _⟩, g2, g3, g4, g6, hb, by unfold outOf; rw [if_neg (fun h => h7 h.2), if_pos ⟨rfl, h6', hn⟩]⟩
        · refine (mark_full k pa pl pe o A1 c1 l1 nx md pr A5 c5 l5 A6 c6 l6 st r2 w hr1 hc1 hr5 hc5 hr6 hc6 hp h5 h6 hd h1 h2 hn).mono ?_
          rintro e w1 ⟨B1, d1, B5, d5, B6, rfl, g1, g5, g2, g3, g4, g6, hb⟩
          exact ⟨_, _, _, _, _, _, _, _, _, _, _, _, _, _, _, _, _, _, rfl, ⟨g1, g5, Nat.le_refl _⟩, g2, g3, g4, g6, hb, by unfold outOf; rw [if_neg (fun h => h7 h.2), if_neg (fun h => hn h.2.2)]⟩
  · refine (mark_plain k pa pl pe o A1 c1 l1 nx md pr A5 c5 l5 A6 c6 l6 st a1 r2 w hr1 hc1 hr5 hc5 hr6 hc6 hp h5 h6 hd ha).mono ?_
    rintro e w1 ⟨B1, d1, B5, d5, B6, rfl, g1, g5, g2, g3, g4, g6, hb⟩
    exact ⟨_, _, _, _, _, _, _, _, _, _, _, _, _, _, _, _, _, _, rfl, ⟨g1, g5, Nat.le_refl _⟩, g2, g3, g4, g6, hb, by unfold outOf; rw [if_neg (fun h => ha h.1), if_neg (fun h => ha h.1)]⟩
set_option maxHeartbeats 4000000 in
set_option maxRecDepth 100000 in
theorem ref_any (k : Nat) (pa pl pe o : Int) (A1 : Option Addr) (c1 : Nat) (l1 : List S38) (nx md pr : Int) (A5 : Option Addr) (c5 : Nat) (l5 : List Int) (A6 : Option Addr) (c6 : Nat) (l6 : List S58) (st : Int) (a1 : Int) (w : World)
    (hr1 : Kd.C k38 w A1 l1.length l1) (hc1 : l1.length ≤ c1) (hr5 : Kd.C (Kd.int .u32) w A5 l5.length l5) (hc5 : l5.length ≤ c5) (hr6 : Kd.C k58 w A6 l6.length l6) (hc6 : l6.length ≤ c6) (h1 : interregnumref11_Has.f k o l1 nx md pr l5 l6 4294901767 = some (decide (4294901767 ∈ l5))) (h2 : interregnumref11_Has.f k o l1 nx md pr l5 l6 4294901766 = some (decide (4294901766 ∈ l5))) :
    Calls Try.prog 31 #[.agg #[.int .u32 pa, .int .i64 pl, .int .i64 pe, .int .i64 o, .slice A1 l1.length c1, .int .u32 nx, .int .i64 md, .int .i64 pr, .slice A5 l5.length c5, .slice A6 l6.length c6, .int .i64 st], .int .i64 a1] w fun e w' => ∃ (u0 u1 u2 u3 : Int) (V1 : Option Addr) (du1 : Nat) (pu1 : List S38) (u5 u6 u7 : Int) (V5 : Option Addr) (du5 : Nat) (pu5 : List Int) (V6 : Option Addr) (du6 : Nat) (pu6 : List S58) (u10 : Int) (ub : Bool), e = .returned (.tuple #[.agg #[.int .u32 u0, .int .i64 u1, .int .i64 u2, .int .i64 u3, .slice V1 pu1.length du1, .int .u32 u5, .int .i64 u6, .int .i64 u7, .slice V5 pu5.length du5, .slice V6 pu6.length du6, .int .i64 u10], .bool ub]) ∧ (pu1.length ≤ du1 ∧ pu5.length ≤ du5 ∧ pu6.length ≤ du6) ∧ Kd.C k38 w' V1 pu1.length pu1 ∧ Kd.C (Kd.int .u32) w' V5 pu5.length pu5 ∧ Kd.C k58 w' V6 pu6.length pu6 ∧ Below w.heap.size w w' ∧ outOf pa pl pe o l1 nx md pr l5 l6 a1 = (u0, u1, u2, u3, pu1, u5, u6, u7, pu5, pu6, u10, ub) := by
  by_cases ha : a1 = 2
  · subst ha
    by_cases h7 : (4294901767 : Int) ∈ l5
    · rw [decide_eq_true h7] at h1
      refine (ref_gone k pa pl pe o A1 c1 l1 nx md pr A5 c5 l5 A6 c6 l6 st w hr1 hc1 hr5 hc5 hr6 hc6 h1).mono ?_
      rintro e w1 ⟨rfl, hb⟩
      exact ⟨0, 0, 0, 0, none, 0, [], 0, 0, 0, none, 0, [], none, 0, [], 0, false, rfl, ⟨Nat.le_refl _, Nat.le_refl _, Nat.le_refl _⟩, Kd.C_nil _ _, Kd.C_nil _ _, Kd.C_nil _ _, hb, by unfold outOf; rw [if_pos ⟨rfl, h7⟩]⟩
    · rw [decide_eq_false h7] at h1
      by_cases h6' : (4294901766 : Int) ∈ l5
      · rw [decide_eq_true h6'] at h2
        refine (ref_has k pa pl pe o A1 c1 l1 nx md pr A5 c5 l5 A6 c6 l6 st w hr1 hc1 hr5 hc5 hr6 hc6 h1 h2).mono ?_
        rintro e w1 ⟨B5, d5, rfl, g5, g3, hb⟩
        exact ⟨_, _, _, _, _, _, _, _, _, _, _, _, _, _, _, _, _, _, rfl, ⟨hc1, g5, hc6⟩, Kd.C_below hr1 hb, g3, Kd.C_below hr6 hb, hb, by unfold outOf; rw [if_neg (fun h => h7 h.2), if_neg (fun h => h.2.1 h6')]⟩
      · rw [decide_eq_false h6'] at h2
        by_cases hn : l5.length < 32
        · refine (ref_more k pa pl pe o A1 c1 l1 nx md pr A5 c5 l5 A6 c6 l6 st w hr1 hc1 hr5 hc5 hr6 hc6 h1 h2 hn).mono ?_
          rintro e w1 ⟨B5, d5, rfl, g5, g3, hb⟩
          have hlen : (l5 ++ [4294901766] : List Int).length = l5.length + 1 := by simp
          rw [← hlen] at g3 g5 ⊢
          exact ⟨_, _, _, _, _, _, _, _, _, _, _, _, _, _, _, _, _, _, rfl, ⟨hc1, g5, hc6⟩, Kd.C_below hr1 hb, g3, Kd.C_below hr6 hb, hb, by unfold outOf; rw [if_neg (fun h => h7 h.2), if_pos ⟨rfl, h6', hn⟩]⟩
        · refine (ref_full k pa pl pe o A1 c1 l1 nx md pr A5 c5 l5 A6 c6 l6 st w hr1 hc1 hr5 hc5 hr6 hc6 h1 h2 hn).mono ?_
          rintro e w1 ⟨B5, d5, rfl, g5, g3, hb⟩
          exact ⟨_, _, _, _, _, _, _, _, _, _, _, _, _, _, _, _, _, _, rfl, ⟨hc1, g5, hc6⟩, Kd.C_below hr1 hb, g3, Kd.C_below hr6 hb, hb, by unfold outOf; rw [if_neg (fun h => h7 h.2), if_neg (fun h => hn h.2.2)]⟩
  · refine (ref_plain k pa pl pe o A1 c1 l1 nx md pr A5 c5 l5 A6 c6 l6 st a1 w hr1 hc1 hr5 hc5 hr6 hc6 ha).mono ?_
    rintro e w1 ⟨B5, d5, rfl, g5, g3, hb⟩
    exact ⟨_, _, _, _, _, _, _, _, _, _, _, _, _, _, _, _, _, _, rfl, ⟨hc1, g5, hc6⟩, Kd.C_below hr1 hb, g3, Kd.C_below hr6 hb, hb, by unfold outOf; rw [if_neg (fun h => ha h.1), if_neg (fun h => ha h.1)]⟩
section
variable {P : Program} {ops : Array Oper} {op : Oper} {a : Act} {Q : Exit → Act → World → Prop} {Kc : Act → World → Prop}
/-- 'make([]uint32, 0, n)' in a region that draws its order. -/
theorem make_room_step {W : World} (hw : Region.wanted op (yielded ops a.tmps) = true) {N : Tmp} (hd : op.dst = some N) (t e : TypeId) (x y : Operand) (ho : op.op = .makeSlice t x y) (C : Int) (n : Nat) (hx : a.eval x = .int .i64 0) (hy : a.eval y = .int .i64 C) (hC : C = (n : Int))
    (ht : P.underlying t = some (.slice e)) (hinfo : (P.info? e).map (fun i => (i.zero, i.size, i.bytes)) = some (some (.int .u32 0), 1, 4)) (hl : n < 10000)
    (h : ∀ w1, Kd.R (Kd.int .u32) e w1 W.heap.size (fun _ => True) (.slice (some ⟨W.heap.size, 0, none⟩) 0 n) [] → Below W.heap.size W w1 → Kc (a.put op.dst (.slice (some ⟨W.heap.size, 0, none⟩) 0 n)) w1) :
    if Region.wanted op (yielded ops a.tmps) = true then Oper.wp P op a W Kc Q else Kc (a.put op.dst undef) W := by
  obtain ⟨i, hi, he⟩ := Option.map_eq_some_iff.mp hinfo
  simp only [Prod.mk.injEq] at he
  obtain ⟨hz, hsz, hby⟩ := he
  subst hC
  obtain ⟨w1, hrun, hown, hg⟩ := run_make_own (P := P) (w := W) W.heap.size t e i (.int .u32 0) 1 ht hi hz hsz .i64 .i64 n (by rw [hby]; omega) (by unfold maxLen; omega) (Nat.le_refl _)
  rw [if_pos hw]
  unfold Oper.wp
  simp [execOp, ho, hx, hy, hrun, Result.andThen]
  exact h w1 (Kd.R_of_own hown (fun _ _ => trivial)) ((Below.refl _ _).grown hg (Nat.le_refl _) (fun k e => by cases e))
end
def marksOk (k : Nat) (pa pl pe o : Int) (l1 : List S38) (nx md pr : Int) (l5 : List Int) (l6 : List S58) (st a1 : Int) (r2 : List S38) : Prop :=
  interregnumlaw13_answers.f = some true ∧ slices_Clone_uint32_uint32.f l5 = some l5 ∧ l6.length < 4000 ∧ l5.length < 4000 ∧ (∀ r ∈ l6, bytes_Clone.f r.f2 = some r.f2) ∧
  route_Has.f k o l1 nx md pr l5 l6 4294901767 = some (decide (4294901767 ∈ l5)) ∧ route_Has.f k o r2 nx md pr l5 l6 4294901766 = some (decide (4294901766 ∈ l5)) ∧ interregnumref11_Has.f k o l1 nx md pr l5 l6 4294901767 = some (decide (4294901767 ∈ l5)) ∧ interregnumref11_Has.f k o l1 nx md pr l5 l6 4294901766 = some (decide (4294901766 ∈ l5)) ∧
  interregnumref11_SameRoute.f k pa pl pe o l1 nx md pr l5 l6 st pa pl pe o l1 nx md pr l5 l6 st = some true ∧
  interregnumref11_SameRoute.f k (outOf pa pl pe o r2 nx md pr l5 l6 a1).1 (outOf pa pl pe o r2 nx md pr l5 l6 a1).2.1 (outOf pa pl pe o r2 nx md pr l5 l6 a1).2.2.1 (outOf pa pl pe o r2 nx md pr l5 l6 a1).2.2.2.1 (outOf pa pl pe o r2 nx md pr l5 l6 a1).2.2.2.2.1 (outOf pa pl pe o r2 nx md pr l5 l6 a1).2.2.2.2.2.1 (outOf pa pl pe o r2 nx md pr l5 l6 a1).2.2.2.2.2.2.1 (outOf pa pl pe o r2 nx md pr l5 l6 a1).2.2.2.2.2.2.2.1 (outOf pa pl pe o r2 nx md pr l5 l6 a1).2.2.2.2.2.2.2.2.1 (outOf pa pl pe o r2 nx md pr l5 l6 a1).2.2.2.2.2.2.2.2.2.1 (outOf pa pl pe o r2 nx md pr l5 l6 a1).2.2.2.2.2.2.2.2.2.2.1 (outOf pa pl pe o l1 nx md pr l5 l6 a1).1 (outOf pa pl pe o l1 nx md pr l5 l6 a1).2.1 (outOf pa pl pe o l1 nx md pr l5 l6 a1).2.2.1 (outOf pa pl pe o l1 nx md pr l5 l6 a1).2.2.2.1 (outOf pa pl pe o l1 nx md pr l5 l6 a1).2.2.2.2.1 (outOf pa pl pe o l1 nx md pr l5 l6 a1).2.2.2.2.2.1 (outOf pa pl pe o l1 nx md pr l5 l6 a1).2.2.2.2.2.2.1 (outOf pa pl pe o l1 nx md pr l5 l6 a1).2.2.2.2.2.2.2.1 (outOf pa pl pe o l1 nx md pr l5 l6 a1).2.2.2.2.2.2.2.2.1 (outOf pa pl pe o l1 nx md pr l5 l6 a1).2.2.2.2.2.2.2.2.2.1 (outOf pa pl pe o l1 nx md pr l5 l6 a1).2.2.2.2.2.2.2.2.2.2.1 = some true
instance marksOk_dec (k : Nat) (pa pl pe o : Int) (l1 : List S38) (nx md pr : Int) (l5 : List Int) (l6 : List S58) (st a1 : Int) (r2 : List S38) : Decidable (marksOk k pa pl pe o l1 nx md pr l5 l6 st a1 r2) := by unfold marksOk; infer_instance
theorem out_last (pa pl pe o : Int) (l1 r2 : List S38) (nx md pr : Int) (l5 : List Int) (l6 : List S58) (a1 : Int) : (outOf pa pl pe o r2 nx md pr l5 l6 a1).2.2.2.2.2.2.2.2.2.2.2 = (outOf pa pl pe o l1 nx md pr l5 l6 a1).2.2.2.2.2.2.2.2.2.2.2 := by
  unfold outOf
  split <;> rfl
set_option maxHeartbeats 4000000 in
set_option maxRecDepth 100000 in
open Go.Proofs.Ytpkckkmgnlhhcaa.Mid in
theorem law_not_small (k : Nat) (pa pl pe o : Int) (A1 : Option Addr) (c1 : Nat) (l1 : List S38) (nx md pr : Int) (A5 : Option Addr) (c5 : Nat) (l5 : List Int) (A6 : Option Addr) (c6 : Nat) (l6 : List S58) (st : Int) (a1 : Int) (w : World)
    (hr1 : Kd.C k38 w A1 l1.length l1) (hc1 : l1.length ≤ c1) (hr5 : Kd.C (Kd.int .u32) w A5 l5.length l5) (hc5 : l5.length ≤ c5) (hr6 : Kd.C k58 w A6 l6.length l6) (hc6 : l6.length ≤ c6) (hs : interregnumlaw13_small.f k pa pl pe o l1 nx md pr l5 l6 st = some false) :
    Calls Try.prog 7 #[.agg #[.int .u32 pa, .int .i64 pl, .int .i64 pe, .int .i64 o, .slice A1 l1.length c1, .int .u32 nx, .int .i64 md, .int .i64 pr, .slice A5 l5.length c5, .slice A6 l6.length c6, .int .i64 st], .int .i64 a1] w fun e w' => e = .returned (.bool true) ∧ Below w.heap.size w w' := by
  have HR1 := Aside0.mk hr1
  have HR5 := Aside0.mk hr5
  have HR6 := Aside0.mk hr6
  have HC := Aside0.mk (And.intro hc1 (And.intro hc5 hc6))
  have HB := Aside0.mk (Below.refl w.heap.size w)
  have hu46 := Try.underlying46
  have hu48 := Try.underlying48
  clear hr1 hc1 hr5 hc5 hr6 hc6
  have HS := Aside0.mk hs
  clear hs
  go_enter Try.func7, Try.ntmps7
  go_wp2_with (first | ((with_reducible refine gate_dst (N := 2) rfl ?_); refine box_event ?hg (N := 2) ?hd (cs := #[.int .u32 pa, .int .i64 pl, .int .i64 pe, .int .i64 o, .slice A1 l1.length c1, .int .u32 nx, .int .i64 md, .int .i64 pr, .slice A5 l5.length c5, .slice A6 l6.length c6, .int .i64 st]) (t := 48) ?hr ?_; (case hd => rfl); (case hg => rfl); (case hr => first | (go_simp; done) | (go_simp; rfl)); intro gr hg w1 hbox hb; have HB1 := Aside0.mk (below_step HB.out hb); have BKR := Aside0.mk hbox; have GER := Aside0.mk (show w.heap.size ≤ gr from by rw [hg]; exact Nat.le_refl _); clear hbox hb hg) | ((with_reducible refine gate_dst (N := 11) rfl ?_); (try (refine gate_guard (by rfl) ?_; dsimp only)); refine load_blk rfl 48 (.tmp 2) rfl (g := gr) (off := 0) [.int .u32 pa, .int .i64 pl, .int .i64 pe, .int .i64 o, .slice A1 l1.length c1, .int .u32 nx, .int .i64 md, .int .i64 pr, .slice A5 l5.length c5, .slice A6 l6.length c6, .int .i64 st] _ rfl BKR.out (self_r _) Try.underlying48 rfl (by kernel_rfl) ?_) | (go_at_call 28; with_reducible refine (interregnumlaw13_small.calls k pa pl pe o A1 c1 l1 nx md pr A5 c5 l5 A6 c6 l6 st false _ (Kd.C_below HR1.out HB1.out) HC.out.1 (Kd.C_below HR5.out HB1.out) HC.out.2.1 (Kd.C_below HR6.out HB1.out) HC.out.2.2 HS.out).mono ?_; rintro e w2 ⟨rfl, hb⟩; have BKR2 := Aside0.mk ((hb.block _ (blk_lt BKR.out)).trans BKR.out); have HB2 := Aside0.mk (below_step HB1.out hb); clear hb) | (go_at_call 29; with_reducible refine (interregnumlaw13_answers.calls true _ rfl).mono ?_; rintro e w3 ⟨rfl, hb⟩; have HB3 := Aside0.mk (below_step HB2.out hb); clear hb))
  go_ret
  exact ⟨rfl, by first | exact HB3.out | exact pw_below_drewN HB3.out _⟩
theorem out_len (pa pl pe o : Int) (l1 : List S38) (nx md pr : Int) (l5 : List Int) (l6 : List S58) (a1 : Int) : (outOf pa pl pe o l1 nx md pr l5 l6 a1).2.2.2.2.2.2.2.2.1.length ≤ l5.length + 1 := by
  unfold outOf
  split
  · exact Nat.zero_le _
  · show (if _ then _ else _ : List Int).length ≤ _
    split
    · simp
    · omega
set_option maxHeartbeats 4000000 in
set_option maxRecDepth 100000 in
open Go.Proofs.Ytpkckkmgnlhhcaa.Mid in
theorem law_small (k : Nat) (pa pl pe o : Int) (A1 : Option Addr) (c1 : Nat) (l1 : List S38) (nx md pr : Int) (A5 : Option Addr) (c5 : Nat) (l5 : List Int) (A6 : Option Addr) (c6 : Nat) (l6 : List S58) (st : Int) (a1 : Int) (r2 : List S38) (w : World)
    (hr1 : Kd.C k38 w A1 l1.length l1) (hc1 : l1.length ≤ c1) (hr5 : Kd.C (Kd.int .u32) w A5 l5.length l5) (hc5 : l5.length ≤ c5) (hr6 : Kd.C k58 w A6 l6.length l6) (hc6 : l6.length ≤ c6) (hs : interregnumlaw13_small.f k pa pl pe o l1 nx md pr l5 l6 st = some true) (hp : path_Own.f k l1 = some r2) (hok : marksOk k pa pl pe o l1 nx md pr l5 l6 st a1 r2) :
    Calls Try.prog 7 #[.agg #[.int .u32 pa, .int .i64 pl, .int .i64 pe, .int .i64 o, .slice A1 l1.length c1, .int .u32 nx, .int .i64 md, .int .i64 pr, .slice A5 l5.length c5, .slice A6 l6.length c6, .int .i64 st], .int .i64 a1] w fun e w' => e = .returned (.bool true) ∧ Below w.heap.size w w' := by
  have HR1 := Aside0.mk hr1
  have HR5 := Aside0.mk hr5
  have HR6 := Aside0.mk hr6
  have HC := Aside0.mk (And.intro hc1 (And.intro hc5 hc6))
  have HB := Aside0.mk (Below.refl w.heap.size w)
  have hu46 := Try.underlying46
  have hu48 := Try.underlying48
  clear hr1 hc1 hr5 hc5 hr6 hc6
  have HS := Aside0.mk hs
  have HP := Aside0.mk hp
  have LN := Aside0.mk hok.2.2.2.1
  have LN6 := Aside0.mk hok.2.2.1
  have HANS := Aside0.mk hok.1
  have HCL := Aside0.mk hok.2.1
  have HRW := Aside0.mk hok.2.2.2.2.1
  have HA1 := Aside0.mk hok.2.2.2.2.2.1
  have HA2 := Aside0.mk hok.2.2.2.2.2.2.1
  have HA3 := Aside0.mk hok.2.2.2.2.2.2.2.1
  have HA4 := Aside0.mk hok.2.2.2.2.2.2.2.2.1
  have HS1 := Aside0.mk hok.2.2.2.2.2.2.2.2.2.1
  have HS2 := Aside0.mk hok.2.2.2.2.2.2.2.2.2.2
  clear hs hp hok
  go_enter Try.func7, Try.ntmps7
  go_upto_region 4 with (first | ((with_reducible refine gate_dst (N := 2) rfl ?_); refine box_event ?hg (N := 2) ?hd (cs := #[.int .u32 pa, .int .i64 pl, .int .i64 pe, .int .i64 o, .slice A1 l1.length c1, .int .u32 nx, .int .i64 md, .int .i64 pr, .slice A5 l5.length c5, .slice A6 l6.length c6, .int .i64 st]) (t := 48) ?hr ?_; (case hd => rfl); (case hg => rfl); (case hr => first | (go_simp; done) | (go_simp; rfl)); intro gr hg w1 hbox hb; have HB1 := Aside0.mk (below_step HB.out hb); have BKR := Aside0.mk hbox; have GER := Aside0.mk (show w.heap.size ≤ gr from by rw [hg]; exact Nat.le_refl _); clear hbox hb hg) | ((with_reducible refine gate_dst (N := 11) rfl ?_); (try (refine gate_guard (by rfl) ?_; dsimp only)); refine load_blk rfl 48 (.tmp 2) rfl (g := gr) (off := 0) [.int .u32 pa, .int .i64 pl, .int .i64 pe, .int .i64 o, .slice A1 l1.length c1, .int .u32 nx, .int .i64 md, .int .i64 pr, .slice A5 l5.length c5, .slice A6 l6.length c6, .int .i64 st] _ rfl BKR.out (self_r _) Try.underlying48 rfl (by kernel_rfl) ?_) | (go_at_call 28; with_reducible refine (interregnumlaw13_small.calls k pa pl pe o A1 c1 l1 nx md pr A5 c5 l5 A6 c6 l6 st true _ (Kd.C_below HR1.out HB1.out) HC.out.1 (Kd.C_below HR5.out HB1.out) HC.out.2.1 (Kd.C_below HR6.out HB1.out) HC.out.2.2 HS.out).mono ?_; rintro e w2 ⟨rfl, hb⟩; have BKR2 := Aside0.mk ((hb.block _ (blk_lt BKR.out)).trans BKR.out); have HB2 := Aside0.mk (below_step HB1.out hb); clear hb) | ((with_reducible refine gate_dst (N := 15) rfl ?_); (try (refine gate_guard (by rfl) ?_; dsimp only)); refine load_blk rfl 48 (.tmp 2) rfl (g := gr) (off := 0) [.int .u32 pa, .int .i64 pl, .int .i64 pe, .int .i64 o, .slice A1 l1.length c1, .int .u32 nx, .int .i64 md, .int .i64 pr, .slice A5 l5.length c5, .slice A6 l6.length c6, .int .i64 st] _ rfl BKR2.out (self_r _) Try.underlying48 rfl (by kernel_rfl) ?_) | ((with_reducible refine gate_dst (N := 5) rfl ?_); refine box_event ?hg (N := 5) ?hd (cs := #[.int .u32 0, .int .i64 0, .int .i64 0, .int .i64 0, .slice none 0 0, .int .u32 0, .int .i64 0, .int .i64 0, .slice none 0 0, .slice none 0 0, .int .i64 0]) (t := 48) ?hr ?_; (case hd => rfl); (case hg => rfl); (case hr => first | (go_simp; done) | (go_simp; rfl)); intro g5 hg w3 hbox hb; have HB3 := Aside0.mk (below_step HB2.out hb); have BKR3 := Aside0.mk ((hb.block _ (blk_lt BKR2.out)).trans BKR2.out); have BK5 := Aside0.mk hbox; have GE5 := Aside0.mk (show gr < g5 from by rw [hg]; exact blk_lt BKR2.out); clear hbox hb hg) | ((with_reducible refine gate_store (t := 48) (p := 5) rfl ?_); refine store_new rfl 48 (.tmp 5) (.tmp 15) rfl [.int .u32 pa, .int .i64 pl, .int .i64 pe, .int .i64 o, .slice A1 l1.length c1, .int .u32 nx, .int .i64 md, .int .i64 pr, .slice A5 l5.length c5, .slice A6 l6.length c6, .int .i64 st] (by rfl) (by rfl) BK5.out (by rfl) (by kernel_rfl) (by intro v hv; simp only [List.mem_cons, List.not_mem_nil, or_false] at hv; rcases hv with rfl | rfl | rfl | rfl | rfl | rfl | rfl | rfl | rfl | rfl | rfl <;> rfl) ?_; intro w4 hx hg hs; have BK5A := Aside0.mk hx; have BKRA := Aside0.mk ((hg.block _ (blk_lt BKR3.out) (fun e => by injection e with e; have := GE5.out; omega)).trans BKR3.out); have HB4 := Aside0.mk (HB3.out.grown hg HB3.out.size (fun k e => by injection e with e; have := GER.out; have := GE5.out; omega)); clear hx hg hs))
  refine start_ (n := 13) (S := fun w' => w'.cell? ⟨gr, 8, none⟩ = some (.slice A5 l5.length c5)) (ds := [12]) #[false, false, false, false, false, false, false, false, false, false, false, false, false] (by kernel_rfl) rfl rfl ((blk_cell BKRA.out 8).trans rfl) (fun hHeld => ?_)
  have HBD := Aside0.mk (below_drew1 HB4.out)
  have BKR4 := Aside0.mk (blk_drew BKRA.out)
  have BK54 := Aside0.mk (blk_drew BK5A.out)
  generalize w4.drew = wD at HBD BKR4 BK54 hHeld ⊢
  refine pure_ (i := 0) (N := some 16) (v := ?_) (a' := ?_) #[true, false, false, false, false, false, false, false, false, false, false, false, false] rfl rfl (by kernel_rfl) (fun _ _ _ h => h) (Or.inl ⟨by rfl, ?_⟩) ?_ ?_
  rotate_left
  · intro w'
    go_simp
    with_reducible rfl
  rotate_left
  · simp only [Act.put, List.setIfInBounds_toArray, List.set_cons_zero, List.set_cons_succ, i64_w, i32_w]
    rfl
  refine pure_ (i := 1) (N := some 17) (v := ?_) (a' := ?_) #[true, true, false, false, false, false, false, false, false, false, false, false, false] rfl rfl (by kernel_rfl) (fun _ _ _ h => h) (Or.inl ⟨by rfl, ?_⟩) ?_ ?_
  rotate_left
  · intro w'
    go_simp
    with_reducible rfl
  rotate_left
  · simp only [Act.put, List.setIfInBounds_toArray, List.set_cons_zero, List.set_cons_succ, i64_w, i32_w]
    rfl
  refine pure_ (i := 6) (N := some 22) (v := ?_) (a' := ?_) #[true, true, false, false, false, false, true, false, false, false, false, false, false] rfl rfl (by kernel_rfl) (fun _ _ _ h => h) (Or.inl ⟨by rfl, ?_⟩) ?_ ?_
  rotate_left
  · intro w'
    go_simp
    with_reducible rfl
  rotate_left
  · simp only [Act.put, List.setIfInBounds_toArray, List.set_cons_zero, List.set_cons_succ, i64_w, i32_w]
    rfl
  refine pure_ (i := 7) (N := some 23) (v := ?_) (a' := ?_) #[true, true, false, false, false, false, true, true, false, false, false, false, false] rfl rfl (by kernel_rfl) (fun _ _ _ h => h) (Or.inl ⟨by rfl, ?_⟩) ?_ ?_
  rotate_left
  · intro w'
    go_simp
    with_reducible rfl
  rotate_left
  · simp only [Act.put, List.setIfInBounds_toArray, List.set_cons_zero, List.set_cons_succ, i64_w, i32_w]
    rfl
  refine take_ (i := 2) (N := some 18) (v := ?_) (a' := ?_) #[true, true, true, false, false, false, true, true, false, false, false, false, false] rfl rfl (by kernel_rfl) (fun _ _ _ h => h) (Or.inl ⟨by rfl, ?_⟩) hHeld ?_ ?_
  rotate_left
  · intro w' s0
    go_simp
    with_reducible rfl
  rotate_left
  · simp only [Act.put, List.setIfInBounds_toArray, List.set_cons_zero, List.set_cons_succ, i64_w, i32_w]
    rfl
  refine pure_ (i := 3) (N := some 19) (v := ?_) (a' := ?_) #[true, true, true, true, false, false, true, true, false, false, false, false, false] rfl rfl (by kernel_rfl) (fun _ _ _ h => h) (Or.inl ⟨by rfl, ?_⟩) ?_ ?_
  rotate_left
  · intro w'
    go_simp
    with_reducible rfl
  rotate_left
  · simp only [Act.put, List.setIfInBounds_toArray, List.set_cons_zero, List.set_cons_succ, i64_w, i32_w]
    rfl
  refine pure_ (i := 4) (N := some 20) (v := ?_) (a' := ?_) #[true, true, true, true, true, false, true, true, false, false, false, false, false] rfl rfl (by kernel_rfl) (fun _ _ _ h => h) (Or.inl ⟨by rfl, ?_⟩) ?_ ?_
  rotate_left
  · intro w'
    go_simp
    with_reducible rfl
  rotate_left
  · simp only [Act.put, List.setIfInBounds_toArray, List.set_cons_zero, List.set_cons_succ, i64_w, i32_w]
    rfl
  refine take_ (i := 8) (N := some 24) (v := ?_) (a' := ?_) #[true, true, true, true, true, false, true, true, true, false, false, false, false] rfl rfl (by kernel_rfl) (fun _ _ _ h => h) (Or.inl ⟨by rfl, ?_⟩) hHeld ?_ ?_
  rotate_left
  · intro w' s0
    go_simp
    with_reducible rfl
  rotate_left
  · simp only [Act.put, List.setIfInBounds_toArray, List.set_cons_zero, List.set_cons_succ, i64_w, i32_w]
    rfl
  refine one_ (i := 5) (N := some 21) #[true, true, true, true, true, true, true, true, true, false, false, false, false] rfl rfl (by kernel_rfl) (by decide) (fun K hK => ?_)
  refine make_room_step (by rfl) rfl 43 40 (.const (.int .i64 0)) (.tmp 20) rfl _ (l5.length + 4) rfl rfl (by have := LN.out; (try simp only [i64_w]); (try unfold wrap64); omega) Try.underlying43 (show (Try.prog.info? 40).map (fun i => (i.zero, i.size, i.bytes)) = some (some (.int .u32 0), 1, 4) from by kernel_rfl) (by have := LN.out; omega) ?_
  intro w6 ho hb
  have HOA := Aside0.mk (Kd.R_lower ho HBD.out.size)
  replace BKR4 := Aside0.mk ((hb.block _ (blk_lt BKR4.out)).trans BKR4.out)
  replace BK54 := Aside0.mk ((hb.block _ (blk_lt BK54.out)).trans BK54.out)
  replace HBD := Aside0.mk (below_step HBD.out hb)
  clear ho hb
  refine hK.out _ _ ((blk_cell BKR4.out 8).trans rfl) (fun hHeld => ?_)
  clear hK K
  refine norm_ (a' := ?_) ?_ ?_
  rotate_left
  · show Act.put _ (some 21) _ = _
    simp only [Act.put, List.setIfInBounds_toArray, List.set_cons_zero, List.set_cons_succ, i64_w, i32_w]
    rfl
  refine one_ (i := 9) (N := some 25) #[true, true, true, true, true, true, true, true, true, true, false, false, false] rfl rfl (by kernel_rfl) (by decide) (fun K hK => ?_)
  refine Kd.R_append_rows_step (Kd.int .u32) (w0 := w) w.heap.size (by rfl) (.tmp 21) (.tmp 24) 43 40 (.int .u32 0) 4 rfl Try.underlying43 (show (Try.prog.info? 40).map (fun i => (i.zero, i.size, i.bytes)) = some (some (.int .u32 0), 1, 4) from by kernel_rfl) rfl (by decide) (by omega) _ [] l5 A5 l5.length c5 (fun _ => True) (fun _ => False) rfl rfl HOA.out (Kd.C_below HR5.out HBD.out) (fun _ _ h => h) (fun _ h => h.elim) (fun _ _ => trivial) HBD.out HBD.out.size (by have := LN.out; simp only [List.length_nil]; omega) ?_
  intro v9 w9 ho hb hg hat
  have HO9 := Aside0.mk (show Kd.R (Kd.int .u32) 40 w9 w.heap.size (fun _ => True) v9 l5 from ho)
  replace BKR4 := Aside0.mk ((hg.block _ (blk_lt BKR4.out) (Kd.R_ne HOA.out BKR4.out (by decide))).trans BKR4.out)
  replace BK54 := Aside0.mk ((hg.block _ (blk_lt BK54.out) (Kd.R_ne HOA.out BK54.out (by decide))).trans BK54.out)
  replace HBD := Aside0.mk hb
  obtain ⟨BI, dI, e9⟩ := Kd.R_slice HO9.out
  subst e9
  have hz58 : w9.cell? ⟨g5, 8, none⟩ = some (.slice A5 l5.length c5) := (blk_cell BK54.out 8).trans rfl
  have hf58 : w9.frozen? ⟨g5, 8, none⟩ = false := blk_frozen BK54.out 8
  clear ho hb hg hat
  refine hK.out _ _ ((blk_cell BKR4.out 8).trans rfl) (fun hHeld => ?_)
  clear hK K
  refine norm_ (a' := ?_) ?_ ?_
  rotate_left
  · show Act.put _ (some 25) _ = _
    simp only [Act.put, List.setIfInBounds_toArray, List.set_cons_zero, List.set_cons_succ, i64_w, i32_w]
    rfl
  refine pure_ (i := 10) (N := some 26) (v := ?_) (a' := ?_) #[true, true, true, true, true, true, true, true, true, true, true, false, false] rfl rfl (by kernel_rfl) (fun _ _ _ h => h) (Or.inl ⟨by rfl, ?_⟩) ?_ ?_
  rotate_left
  · intro w'
    go_simp
    with_reducible rfl
  rotate_left
  · simp only [Act.put, List.setIfInBounds_toArray, List.set_cons_zero, List.set_cons_succ, i64_w, i32_w]
    rfl
  refine pure_ (i := 11) (N := some 27) (v := ?_) (a' := ?_) #[true, true, true, true, true, true, true, true, true, true, true, true, false] rfl rfl (by kernel_rfl) (fun _ _ _ h => h) (Or.inl ⟨by rfl, ?_⟩) ?_ ?_
  rotate_left
  · intro w'
    go_simp
    with_reducible rfl
  rotate_left
  · simp only [Act.put, List.setIfInBounds_toArray, List.set_cons_zero, List.set_cons_succ, i64_w, i32_w]
    rfl
  refine last_ (i := 12) (N := none) #[true, true, true, true, true, true, true, true, true, true, true, true, true] rfl rfl (by kernel_rfl) (by decide) (fun K hK => ?_)
  refine skip_ (w1 := ?_) (by rfl) rfl ?_ ?_
  rotate_left
  · go_simp
    rfl
  refine hK.out _ _ ?_
  clear hK K
  refine done_ (by kernel_rfl) ?_
  have hneI5 := Kd.R_ne HO9.out BK54.out (by decide)
  have HLI := Aside0.mk (Kd.R_reads' HO9.out).2.1
  have HFI := Aside0.mk (Kd.F_far (p := ⟨g5, 8, none⟩) (Kd.F_mono (ok' := fun k => k ≠ g5) (Kd.R_F (Kd.R_tight rfl HO9.out)) (fun k hk e => hneI5 (by rw [← e]; exact hk))) (fun k hk => hk) (.slice BI l5.length dI))
  have HIM := Aside0.mk (Kd.F_now HFI.out)
  have BK5M := Aside0.mk (show (w9.setCell ⟨g5, 8, none⟩ (.slice BI l5.length dI)).heap[g5]? = some (.cells #[.int .u32 pa, .int .i64 pl, .int .i64 pe, .int .i64 o, .slice A1 l1.length c1, .int .u32 nx, .int .i64 md, .int .i64 pr, .slice BI l5.length dI, .slice A6 l6.length c6, .int .i64 st] 48 (0, 0)) from (blk_set BK54.out 8 (.slice BI l5.length dI)).trans rfl)
  have BKRM := Aside0.mk (show (w9.setCell ⟨g5, 8, none⟩ (.slice BI l5.length dI)).heap[gr]? = some (.cells #[.int .u32 pa, .int .i64 pl, .int .i64 pe, .int .i64 o, .slice A1 l1.length c1, .int .u32 nx, .int .i64 md, .int .i64 pr, .slice A5 l5.length c5, .slice A6 l6.length c6, .int .i64 st] 48 (0, 0)) from (Below.heap_setCell _ _ _ _ (show gr ≠ g5 from by have := GE5.out; omega)).trans BKR4.out)
  have HBM := Aside0.mk (show Below w.heap.size w (w9.setCell ⟨g5, 8, none⟩ (.slice BI l5.length dI)) from Below.setCell HBD.out (by have := GER.out; have := GE5.out; show w.heap.size ≤ g5; omega) _)
  clear HO9 HFI hneI5 hz58 hf58 HOA
  clear HB HB1 HB2 HB3 HB4 HBD BKR BKR2 BKR3 BKRA BKR4 BK5 BK5A BK54
  generalize (w9.setCell ⟨g5, 8, none⟩ (.slice BI l5.length dI)) = wM at HIM BK5M BKRM HBM ⊢
  have HM1 := Aside0.mk (Kd.C_below HR1.out HBM.out)
  have HM5 := Aside0.mk (Kd.C_below HR5.out HBM.out)
  have HM6 := Aside0.mk (Kd.C_below HR6.out HBM.out)
  clear HR1 HR5 HR6
  have HW := Aside0.mk (Below.refl wM.heap.size wM)
  go_upto_region 8 with (first | ((with_reducible refine gate_dst (N := 29) rfl ?_); (try (refine gate_guard (by rfl) ?_; dsimp only)); refine load_blk rfl 48 (.tmp 5) rfl (g := g5) (off := 0) [.int .u32 pa, .int .i64 pl, .int .i64 pe, .int .i64 o, .slice A1 l1.length c1, .int .u32 nx, .int .i64 md, .int .i64 pr, .slice BI l5.length dI, .slice A6 l6.length c6, .int .i64 st] _ rfl BK5M.out (self_r _) Try.underlying48 rfl (by kernel_rfl) ?_) | (go_at_call 30; with_reducible refine (mark_any k pa pl pe o A1 c1 l1 nx md pr BI dI l5 A6 c6 l6 st a1 r2 _ (Kd.C_below HM1.out HW.out) HC.out.1 (Kd.C_below HIM.out HW.out) HLI.out (Kd.C_below HM6.out HW.out) HC.out.2.2 HP.out HCL.out LN6.out HRW.out HA1.out HA2.out).mono ?_; rintro e w10 ⟨q0, q1, q2, q3, B1, dq1, pq1, q5, q6, q7, B5, dq5, pq5, B6, dq6, pq6, q10, qb, rfl, hcq, hq1, hq5, hqi, hq6, hb, hqe⟩; have HQC := Aside0.mk hcq; have HQ1 := Aside0.mk hq1; have HQ5 := Aside0.mk hq5; have HQI := Aside0.mk hqi; have HQ6 := Aside0.mk hq6; have HQE := Aside0.mk hqe; clear hcq hq1 hq5 hqi hq6 hqe; have BK5N := Aside0.mk ((hb.block _ (blk_lt BK5M.out)).trans BK5M.out); have BKRN := Aside0.mk ((hb.block _ (blk_lt BKRM.out)).trans BKRM.out); have HWN := Aside0.mk (below_step HW.out hb); have HQN := Aside0.mk (Below.refl w10.heap.size w10); clear hb) | ((with_reducible refine gate_dst (N := 6) rfl ?_); refine box_event ?hg (N := 6) ?hd (cs := #[.int .u32 0, .int .i64 0, .int .i64 0, .int .i64 0, .slice none 0 0, .int .u32 0, .int .i64 0, .int .i64 0, .slice none 0 0, .slice none 0 0, .int .i64 0]) (t := 48) ?hr ?_; (case hd => rfl); (case hg => rfl); (case hr => first | (go_simp; done) | (go_simp; rfl)); intro g6 hg w11 hbox hb; have BK5O := Aside0.mk ((hb.block _ (blk_lt BK5N.out)).trans BK5N.out); have BKRO := Aside0.mk ((hb.block _ (blk_lt BKRN.out)).trans BKRN.out); have HWO := Aside0.mk (below_step HWN.out hb); have HQO := Aside0.mk (below_step HQN.out hb); have BK6 := Aside0.mk hbox; have GE6 := Aside0.mk (show w10.heap.size ≤ g6 from by rw [hg]; exact Nat.le_refl _); have GR6 := Aside0.mk (show gr < g6 from by rw [hg]; exact blk_lt BKRN.out); have G56 := Aside0.mk (show g5 < g6 from by rw [hg]; exact blk_lt BK5N.out); have GM6 := Aside0.mk (show wM.heap.size ≤ g6 from by rw [hg]; exact HWN.out.size); clear hbox hb hg) | ((with_reducible refine gate_store (t := 48) (p := 6) rfl ?_); refine store_new rfl 48 (.tmp 6) (.tmp 32) rfl [.int .u32 q0, .int .i64 q1, .int .i64 q2, .int .i64 q3, .slice B1 pq1.length dq1, .int .u32 q5, .int .i64 q6, .int .i64 q7, .slice B5 pq5.length dq5, .slice B6 pq6.length dq6, .int .i64 q10] (by rfl) (by rfl) BK6.out (by rfl) (by kernel_rfl) (by intro v hv; simp only [List.mem_cons, List.not_mem_nil, or_false] at hv; rcases hv with rfl | rfl | rfl | rfl | rfl | rfl | rfl | rfl | rfl | rfl | rfl <;> rfl) ?_; intro w12 hx hg hs; have BK6P := Aside0.mk hx; have BK5P := Aside0.mk ((hg.block _ (blk_lt BK5O.out) (fun e => by injection e with e; have := G56.out; omega)).trans BK5O.out); have BKRP := Aside0.mk ((hg.block _ (blk_lt BKRO.out) (fun e => by injection e with e; have := GR6.out; omega)).trans BKRO.out); have HWP := Aside0.mk (HWO.out.grown hg HWO.out.size (fun k e => by injection e with e; have := GM6.out; omega)); have HQP := Aside0.mk (HQO.out.grown hg HQO.out.size (fun k e => by injection e with e; have := GE6.out; omega)); clear hx hg hs) | ((with_reducible refine gate_dst (N := 35) rfl ?_); (try (refine gate_guard (by rfl) ?_; dsimp only)); refine load_blk rfl 48 (.tmp 2) rfl (g := gr) (off := 0) [.int .u32 pa, .int .i64 pl, .int .i64 pe, .int .i64 o, .slice A1 l1.length c1, .int .u32 nx, .int .i64 md, .int .i64 pr, .slice A5 l5.length c5, .slice A6 l6.length c6, .int .i64 st] _ rfl BKRP.out (self_r _) Try.underlying48 rfl (by kernel_rfl) ?_) | (go_at_call 31; with_reducible refine (ref_any k pa pl pe o A1 c1 l1 nx md pr A5 c5 l5 A6 c6 l6 st a1 _ (Kd.C_below HM1.out HWP.out) HC.out.1 (Kd.C_below HM5.out HWP.out) HC.out.2.1 (Kd.C_below HM6.out HWP.out) HC.out.2.2 HA3.out HA4.out).mono ?_; rintro e w13 ⟨u0, u1, u2, u3, V1, du1, pu1, u5, u6, u7, V5, du5, pu5, V6, du6, pu6, u10, ub, rfl, hcq, hq1, hq5, hq6, hb, hqe⟩; have HUC := Aside0.mk hcq; have HU1 := Aside0.mk hq1; have HU5 := Aside0.mk hq5; have HU6 := Aside0.mk hq6; have HUE := Aside0.mk hqe; have hsame : qb = ub := (by have h := out_last pa pl pe o l1 r2 nx md pr l5 l6 a1; rw [HQE.out, HUE.out] at h; exact h); subst hsame; clear hcq hq1 hq5 hq6 hqe; have BK5R := Aside0.mk ((hb.block _ (blk_lt BK5P.out)).trans BK5P.out); have BKRR := Aside0.mk ((hb.block _ (blk_lt BKRP.out)).trans BKRP.out); have BK6R := Aside0.mk ((hb.block _ (blk_lt BK6P.out)).trans BK6P.out); have HWR := Aside0.mk (below_step HWP.out hb); have HQR := Aside0.mk (below_step HQP.out hb); have HUR := Aside0.mk (Below.refl w13.heap.size w13); clear hb) | ((with_reducible refine gate_dst (N := 8) rfl ?_); refine box_event ?hg (N := 8) ?hd (cs := #[.int .u32 0, .int .i64 0, .int .i64 0, .int .i64 0, .slice none 0 0, .int .u32 0, .int .i64 0, .int .i64 0, .slice none 0 0, .slice none 0 0, .int .i64 0]) (t := 48) ?hr ?_; (case hd => rfl); (case hg => rfl); (case hr => first | (go_simp; done) | (go_simp; rfl)); intro g8 hg w14 hbox hb; have BK5S := Aside0.mk ((hb.block _ (blk_lt BK5R.out)).trans BK5R.out); have BKRS := Aside0.mk ((hb.block _ (blk_lt BKRR.out)).trans BKRR.out); have BK6S := Aside0.mk ((hb.block _ (blk_lt BK6R.out)).trans BK6R.out); have HWS := Aside0.mk (below_step HWR.out hb); have HQS := Aside0.mk (below_step HQR.out hb); have HUS := Aside0.mk (below_step HUR.out hb); have BK8 := Aside0.mk hbox; have GE8 := Aside0.mk (show w13.heap.size ≤ g8 from by rw [hg]; exact Nat.le_refl _); have GR8 := Aside0.mk (show gr < g8 from by rw [hg]; exact blk_lt BKRR.out); have G58 := Aside0.mk (show g5 < g8 from by rw [hg]; exact blk_lt BK5R.out); have G68 := Aside0.mk (show g6 < g8 from by rw [hg]; exact blk_lt BK6R.out); have GM8 := Aside0.mk (show wM.heap.size ≤ g8 from by rw [hg]; exact HWR.out.size); have GQ8 := Aside0.mk (show w10.heap.size ≤ g8 from by rw [hg]; exact HQR.out.size); clear hbox hb hg) | ((with_reducible refine gate_store (t := 48) (p := 8) rfl ?_); refine store_new rfl 48 (.tmp 8) (.tmp 38) rfl [.int .u32 u0, .int .i64 u1, .int .i64 u2, .int .i64 u3, .slice V1 pu1.length du1, .int .u32 u5, .int .i64 u6, .int .i64 u7, .slice V5 pu5.length du5, .slice V6 pu6.length du6, .int .i64 u10] (by rfl) (by rfl) BK8.out (by rfl) (by kernel_rfl) (by intro v hv; simp only [List.mem_cons, List.not_mem_nil, or_false] at hv; rcases hv with rfl | rfl | rfl | rfl | rfl | rfl | rfl | rfl | rfl | rfl | rfl <;> rfl) ?_; intro w15 hx hg hs; have BK8T := Aside0.mk hx; have BK5T := Aside0.mk ((hg.block _ (blk_lt BK5S.out) (fun e => by injection e with e; have := G58.out; omega)).trans BK5S.out); have BKRT := Aside0.mk ((hg.block _ (blk_lt BKRS.out) (fun e => by injection e with e; have := GR8.out; omega)).trans BKRS.out); have BK6T := Aside0.mk ((hg.block _ (blk_lt BK6S.out) (fun e => by injection e with e; have := G68.out; omega)).trans BK6S.out); have HWT := Aside0.mk (HWS.out.grown hg HWS.out.size (fun k e => by injection e with e; have := GM8.out; omega)); have HQT := Aside0.mk (HQS.out.grown hg HQS.out.size (fun k e => by injection e with e; have := GQ8.out; omega)); have HUT := Aside0.mk (HUS.out.grown hg HUS.out.size (fun k e => by injection e with e; have := GE8.out; omega)); clear hx hg hs) | ((with_reducible refine gate_dst (N := 40) rfl ?_); (try (refine gate_guard (by rfl) ?_; dsimp only)); refine load_blk rfl 48 (.tmp 5) rfl (g := g5) (off := 0) [.int .u32 pa, .int .i64 pl, .int .i64 pe, .int .i64 o, .slice A1 l1.length c1, .int .u32 nx, .int .i64 md, .int .i64 pr, .slice BI l5.length dI, .slice A6 l6.length c6, .int .i64 st] _ rfl BK5T.out (self_r _) Try.underlying48 rfl (by kernel_rfl) ?_) | ((with_reducible refine gate_dst (N := 41) rfl ?_); (try (refine gate_guard (by rfl) ?_; dsimp only)); refine load_blk rfl 48 (.tmp 2) rfl (g := gr) (off := 0) [.int .u32 pa, .int .i64 pl, .int .i64 pe, .int .i64 o, .slice A1 l1.length c1, .int .u32 nx, .int .i64 md, .int .i64 pr, .slice A5 l5.length c5, .slice A6 l6.length c6, .int .i64 st] _ rfl BKRT.out (self_r _) Try.underlying48 rfl (by kernel_rfl) ?_) | (go_at_call 32; with_reducible refine (interregnumref11_SameRoute.calls k pa pl pe o A1 c1 l1 nx md pr BI dI l5 A6 c6 l6 st pa pl pe o A1 c1 l1 nx md pr A5 c5 l5 A6 c6 l6 st true _ (Kd.C_below HM1.out HWT.out) HC.out.1 (Kd.C_below HIM.out HWT.out) HLI.out (Kd.C_below HM6.out HWT.out) HC.out.2.2 (Kd.C_below HM1.out HWT.out) HC.out.1 (Kd.C_below HM5.out HWT.out) HC.out.2.1 (Kd.C_below HM6.out HWT.out) HC.out.2.2 HS1.out).mono ?_; rintro e w16 ⟨rfl, hb⟩; have BK5U := Aside0.mk ((hb.block _ (blk_lt BK5T.out)).trans BK5T.out); have BKRU := Aside0.mk ((hb.block _ (blk_lt BKRT.out)).trans BKRT.out); have BK6U := Aside0.mk ((hb.block _ (blk_lt BK6T.out)).trans BK6T.out); have BK8U := Aside0.mk ((hb.block _ (blk_lt BK8T.out)).trans BK8T.out); have HWU := Aside0.mk (below_step HWT.out hb); have HQU := Aside0.mk (below_step HQT.out hb); have HUU := Aside0.mk (below_step HUT.out hb); clear hb) | ((with_reducible refine gate_dst (N := 50) rfl ?_); (try (refine gate_guard (by rfl) ?_; dsimp only)); refine load_blk rfl 48 (.tmp 6) rfl (g := g6) (off := 0) [.int .u32 q0, .int .i64 q1, .int .i64 q2, .int .i64 q3, .slice B1 pq1.length dq1, .int .u32 q5, .int .i64 q6, .int .i64 q7, .slice B5 pq5.length dq5, .slice B6 pq6.length dq6, .int .i64 q10] _ rfl BK6U.out (self_r _) Try.underlying48 rfl (by kernel_rfl) ?_) | ((with_reducible refine gate_dst (N := 51) rfl ?_); (try (refine gate_guard (by rfl) ?_; dsimp only)); refine load_blk rfl 48 (.tmp 8) rfl (g := g8) (off := 0) [.int .u32 u0, .int .i64 u1, .int .i64 u2, .int .i64 u3, .slice V1 pu1.length du1, .int .u32 u5, .int .i64 u6, .int .i64 u7, .slice V5 pu5.length du5, .slice V6 pu6.length du6, .int .i64 u10] _ rfl BK8U.out (self_r _) Try.underlying48 rfl (by kernel_rfl) ?_) | (go_at_call 32; with_reducible refine (interregnumref11_SameRoute.calls k q0 q1 q2 q3 B1 dq1 pq1 q5 q6 q7 B5 dq5 pq5 B6 dq6 pq6 q10 u0 u1 u2 u3 V1 du1 pu1 u5 u6 u7 V5 du5 pu5 V6 du6 pu6 u10 true _ (Kd.C_below HQ1.out HQU.out) HQC.out.1 (Kd.C_below HQ5.out HQU.out) HQC.out.2.1 (Kd.C_below HQ6.out HQU.out) HQC.out.2.2 (Kd.C_below HU1.out HUU.out) HUC.out.1 (Kd.C_below HU5.out HUU.out) HUC.out.2.1 (Kd.C_below HU6.out HUU.out) HUC.out.2.2 (by have h := HS2.out; rw [HQE.out, HUE.out] at h; exact h)).mono ?_; rintro e w17 ⟨rfl, hb⟩; have BK5V := Aside0.mk ((hb.block _ (blk_lt BK5U.out)).trans BK5U.out); have BKRV := Aside0.mk ((hb.block _ (blk_lt BKRU.out)).trans BKRU.out); have BK6V := Aside0.mk ((hb.block _ (blk_lt BK6U.out)).trans BK6U.out); have HWV := Aside0.mk (below_step HWU.out hb); have HQV := Aside0.mk (below_step HQU.out hb); clear hb))
  have HQI17 := Aside0.mk (Ints.below HQI.out HQV.out)
  have LQ : Aside0 (pq5.length < 4002) := ⟨by have h := out_len pa pl pe o r2 nx md pr l5 l6 a1; rw [HQE.out] at h; have := LN.out; have h2 : pq5.length ≤ l5.length + 1 := h; omega⟩
  have HQL := Aside0.mk HQC.out.2.1
  clear HQ1 HQ5 HQ6 HU1 HU5 HU6 HQE HUE HQC HUC HQI HWN HWO HWP HWR HWS HWT HWU HW HQN HQO HQP HQR HQS HQT HQU HUR HUS HUT HUU BK5N BK5O BK5P BK5R BK5S BK5T BK5U BK5V BKRN BKRO BKRP BKRR BKRS BKRT BKRU BKRV BK6 BK6P BK6R BK6S BK6T BK6U BK8 BK8T BK8U HA1 HA2 HA3 HA4 HS2 HP HCL HRW HS GR8 GE8 G58 G68 GM8 GQ8 G56 GR6 HQV
  go_loopg [10] (pq5.length + 1) (fun kq v10 wr => ∃ x : Int, v10 = .int .i64 x ∧ Aside0 (0 ≤ x ∧ x + kq = pq5.length + 1) ∧ Aside0 (Ints wM.heap.size wr .u32 40 B5 pq5.length) ∧ Aside0 (Below wM.heap.size wM wr) ∧ Aside0 (wr.heap[g6]? = some (.cells #[.int .u32 q0, .int .i64 q1, .int .i64 q2, .int .i64 q3, .slice B1 pq1.length dq1, .int .u32 q5, .int .i64 q6, .int .i64 q7, .slice B5 pq5.length dq5, .slice B6 pq6.length dq6, .int .i64 q10] 48 (0, 0))))
  case atStart => exact ⟨0, rfl, ⟨by simp⟩, HQI17, HWV, BK6V⟩
  case round =>
    obtain ⟨x, rfl, HF, HIN, HBR, HB6⟩ := hrel
    have hz8 : wr.cell? ⟨g6, 8, none⟩ = some (.slice B5 pq5.length dq5) := (blk_cell HB6.out 8).trans rfl
    by_cases hlt : x < (pq5.length : Int)
    · have HL := Aside0.mk hlt
      obtain ⟨k1, rfl⟩ : ∃ k1, gk = k1 + 1 := ⟨gk - 1, by have := HF.out.2; omega⟩
      have c0b0 : decide (x < (pq5.length : Int)) = true := decide_eq_true hlt
      obtain ⟨g, cells, hBg, hge, hg, ⟨y, hy⟩, hfz⟩ := Ints.at_ HIN.out (k := x.toNat) (by have := HF.out.1; omega)
      have HG := Aside0.mk hg
      have HGE := Aside0.mk hge
      subst hBg
      have pz1 := eq_true HF.out.1
      have qz1 := eq_true hlt
      clear hlt hg hge
      go_wp2
      go_roundg k1
      case measure => omega
      case rel =>
        have hne6 : g6 ≠ g := by
          rintro rfl
          have h := HG.out
          rw [HB6.out] at h
          injection h with h
          injection h with h1 h2 h3
          exact absurd h2 (by decide)
        refine ⟨x + 1, (by have hw : wrap64 (x + 1) = x + 1 := (by have := HL.out; have := HF.out.1; have := LQ.out; unfold wrap64; omega); first | rfl | (simp [hw]; done)), ⟨by have := HF.out.1; omega, by have := HF.out.2; omega⟩, ⟨Ints.put HIN.out HG.out (fun _ => rfl)⟩, ⟨Below.setCell HBR.out (by exact HGE.out) _⟩, ⟨(Below.heap_setCell _ _ _ _ hne6).trans HB6.out⟩⟩
    · have c0b0 : decide (x < (pq5.length : Int)) = false := decide_eq_false hlt
      clear hlt
      have BK5Z := Aside0.mk ((HBR.out.block _ (blk_lt BK5M.out)).trans BK5M.out)
      have BKRZ := Aside0.mk ((HBR.out.block _ (blk_lt BKRM.out)).trans BKRM.out)
      have HBZ := Aside0.mk (below_step HBM.out HBR.out)
      go_wp2_with (first | (go_at_call 29; with_reducible refine (interregnumlaw13_answers.calls true _ HANS.out).mono ?_; rintro e w20 ⟨rfl, hb⟩; have BK5Y := Aside0.mk ((hb.block _ (blk_lt BK5Z.out)).trans BK5Z.out); have BKRY := Aside0.mk ((hb.block _ (blk_lt BKRZ.out)).trans BKRZ.out); have HWY := Aside0.mk (below_step HBR.out hb); have HBY := Aside0.mk (below_step HBZ.out hb); clear hb) | ((with_reducible refine gate_dst (N := 73) rfl ?_); (try (refine gate_guard (by rfl) ?_; dsimp only)); refine load_blk rfl 48 (.tmp 5) rfl (g := g5) (off := 0) [.int .u32 pa, .int .i64 pl, .int .i64 pe, .int .i64 o, .slice A1 l1.length c1, .int .u32 nx, .int .i64 md, .int .i64 pr, .slice BI l5.length dI, .slice A6 l6.length c6, .int .i64 st] _ rfl BK5Y.out (self_r _) Try.underlying48 rfl (by kernel_rfl) ?_) | ((with_reducible refine gate_dst (N := 74) rfl ?_); (try (refine gate_guard (by rfl) ?_; dsimp only)); refine load_blk rfl 48 (.tmp 2) rfl (g := gr) (off := 0) [.int .u32 pa, .int .i64 pl, .int .i64 pe, .int .i64 o, .slice A1 l1.length c1, .int .u32 nx, .int .i64 md, .int .i64 pr, .slice A5 l5.length c5, .slice A6 l6.length c6, .int .i64 st] _ rfl BKRY.out (self_r _) Try.underlying48 rfl (by kernel_rfl) ?_) | (go_at_call 32; with_reducible refine (interregnumref11_SameRoute.calls k pa pl pe o A1 c1 l1 nx md pr BI dI l5 A6 c6 l6 st pa pl pe o A1 c1 l1 nx md pr A5 c5 l5 A6 c6 l6 st true _ (Kd.C_below HM1.out HWY.out) HC.out.1 (Kd.C_below HIM.out HWY.out) HLI.out (Kd.C_below HM6.out HWY.out) HC.out.2.2 (Kd.C_below HM1.out HWY.out) HC.out.1 (Kd.C_below HM5.out HWY.out) HC.out.2.1 (Kd.C_below HM6.out HWY.out) HC.out.2.2 HS1.out).mono ?_; rintro e w21 ⟨rfl, hb⟩; have HBX := Aside0.mk (below_step HBY.out hb); clear hb))
      go_ret
      exact ⟨rfl, by first | exact HBX.out | exact pw_below_drewN HBX.out _⟩
def interregnumlaw13_RouteMarks.f (k : Nat) (pa pl pe o : Int) (l1 : List S38) (nx md pr : Int) (l5 : List Int) (l6 : List S58) (st a1 : Int) : Option Bool :=
  (interregnumlaw13_small.f k pa pl pe o l1 nx md pr l5 l6 st).bind fun s => if s = true then (path_Own.f k l1).bind fun r2 => if marksOk k pa pl pe o l1 nx md pr l5 l6 st a1 r2 then some true else none else if interregnumlaw13_answers.f = some true then some true else none
theorem interregnumlaw13_RouteMarks.calls (k : Nat) (pa pl pe o : Int) (A1 : Option Addr) (c1 : Nat) (l1 : List S38) (nx md pr : Int) (A5 : Option Addr) (c5 : Nat) (l5 : List Int) (A6 : Option Addr) (c6 : Nat) (l6 : List S58) (st : Int) (a1 : Int) (r : Bool) (w : World)
    (hr0_4 : Kd.C k38 w A1 l1.length l1) (hc0_4 : l1.length ≤ c1) (hr0_8 : Kd.C (Kd.int .u32) w A5 l5.length l5) (hc0_8 : l5.length ≤ c5) (hr0_9 : Kd.C k58 w A6 l6.length l6) (hc0_9 : l6.length ≤ c6) (h : interregnumlaw13_RouteMarks.f k pa pl pe o l1 nx md pr l5 l6 st a1 = some r) :
    Calls Try.prog 7 #[.agg #[.int .u32 pa, .int .i64 pl, .int .i64 pe, .int .i64 o, .slice A1 l1.length c1, .int .u32 nx, .int .i64 md, .int .i64 pr, .slice A5 l5.length c5, .slice A6 l6.length c6, .int .i64 st], .int .i64 a1] w fun e w' => e = .returned (.bool r) ∧ Below w.heap.size w w' := by
  unfold interregnumlaw13_RouteMarks.f at h
  obtain ⟨s, hs, h⟩ := Option.bind_eq_some_iff.mp h
  by_cases hst : s = true
  · rw [if_pos hst] at h
    subst hst
    obtain ⟨r2, hp, h⟩ := Option.bind_eq_some_iff.mp h
    by_cases hok : marksOk k pa pl pe o l1 nx md pr l5 l6 st a1 r2
    · rw [if_pos hok] at h
      obtain rfl := Option.some.inj h
      exact law_small k pa pl pe o A1 c1 l1 nx md pr A5 c5 l5 A6 c6 l6 st a1 r2 w hr0_4 hc0_4 hr0_8 hc0_8 hr0_9 hc0_9 hs hp hok
    · rw [if_neg hok] at h
      cases h
  · rw [if_neg hst] at h
    by_cases ha : interregnumlaw13_answers.f = some true
    · rw [if_pos ha] at h
      obtain rfl := Option.some.inj h
      have hsf : s = false := by cases s with | true => exact absurd rfl hst | false => rfl
      subst hsf
      exact law_not_small k pa pl pe o A1 c1 l1 nx md pr A5 c5 l5 A6 c6 l6 st a1 w hr0_4 hc0_4 hr0_8 hc0_8 hr0_9 hc0_9 hs
    · rw [if_neg ha] at h
      cases h


end Go.Proofs.Ytpkckkmgnlhhcaa.PRouteMarks
