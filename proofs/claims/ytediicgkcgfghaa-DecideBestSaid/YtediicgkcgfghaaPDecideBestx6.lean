-- Lean text by a program of this repo (wip/tools/printx.py), out of Lean's own print of the translation
import Derived.Test.YtediicgkcgfghaaPDecideBestx0
import Derived.Test.YtediicgkcgfghaaPDecideBestx5
namespace Go.Proofs.Ytediicgkcgfghaa.PDecideBest
open Go.RowKit Go.Proofs.YtediicgkcgfghaaW.PrintWords Go.Proofs.YtediicgkcgfghaaW.PrintLast Go.Proofs.YtediicgkcgfghaaW.PrintMore
attribute [local go_sem] max2_int min2_int max_two min_two max_three min_three max_four min_four   -- for this text's walks alone
set_option linter.unusedVariables false
set_option linter.unusedSimpArgs false

/-! ### interregnumref11_score: function 31 -/
mutual
def interregnumref11_score.l0 : Nat → List (S41) → List Int → Int → Bool → Int → Int → Int → Int → Int → List (S47) → Int → Int → Int → List Int → List (S102) → Int → Option (Int)
  | 0, _, _, _, _, _, _, _, _, _, _, _, _, _, _, _, _ => none
  | k + 1, x3, x4, x14, x15, x16, x144000, x144001, x144002, x144003, x144004, x144005, x144006, x144007, x144008, x144009, x144010 => if x16 < (x4.length : Int) then (if 0 ≤ x16 then (if 0 ≤ (rd x4 x16) then (if (rd x4 x16) < (x3.length : Int) then ((interregnumref05_First.f k ((rd_T41 x3 (rd x4 x16)).f2.f1)).bind fun bt151 => (if x15 = true then (if bt151.2 = true then (if x14 = bt151.1 then ((interregnumref11_med.f ((rd_T41 x3 (rd x4 x16)).f2.f0) ((rd_T41 x3 (rd x4 x16)).f2.f1) ((rd_T41 x3 (rd x4 x16)).f2.f2) ((rd_T41 x3 (rd x4 x16)).f2.f3) ((rd_T41 x3 (rd x4 x16)).f2.f4) ((rd_T41 x3 (rd x4 x16)).f2.f5) ((rd_T41 x3 (rd x4 x16)).f2.f6)).bind fun t153 => ((interregnumref11_med.f x144003 x144004 x144005 x144006 x144007 x144008 x144009).bind fun t154 => (interregnumref11_score.j1 k x3 x4 x14 x15 x16 (decide (t153 < t154)) x144000 x144001 x144002 x144003 x144004 x144005 x144006 x144007 x144008 x144009 x144010))) else (interregnumref11_score.j1 k x3 x4 x14 x15 x16 false x144000 x144001 x144002 x144003 x144004 x144005 x144006 x144007 x144008 x144009 x144010)) else (interregnumref11_score.j1 k x3 x4 x14 x15 x16 false x144000 x144001 x144002 x144003 x144004 x144005 x144006 x144007 x144008 x144009 x144010)) else (interregnumref11_score.j1 k x3 x4 x14 x15 x16 false x144000 x144001 x144002 x144003 x144004 x144005 x144006 x144007 x144008 x144009 x144010))) else (none)) else (none)) else (none)) else (some 0)
def interregnumref11_score.j1 : Nat → List (S41) → List Int → Int → Bool → Int → Bool → Int → Int → Int → Int → List (S47) → Int → Int → Int → List Int → List (S102) → Int → Option (Int)
  | 0, _, _, _, _, _, _, _, _, _, _, _, _, _, _, _, _, _ => none
  | k + 1, x3, x4, x14, x15, x16, x98, x144000, x144001, x144002, x144003, x144004, x144005, x144006, x144007, x144008, x144009, x144010 => if x98 = true then (some 1) else (interregnumref11_score.l0 k x3 x4 x14 x15 (wrap64 (x16 + 1)) x144000 x144001 x144002 x144003 x144004 x144005 x144006 x144007 x144008 x144009 x144010)
end
def interregnumref11_score.f (k : Nat) (a0 : Int) (a1 : Int) (l2 : List (S64)) (l3 : List (S41)) (l4 : List Int) (a5 : Int) : Option (Int) := if 0 ≤ a5 then (if a5 < (l3.length : Int) then (if a0 = 0 then (if ((rd_T41 l3 a5).f1) < 0 then (some 0) else (some 1)) else (if a0 = 1 then (if ((rd_T41 l3 a5).f3) = 2 then (some 1) else (some 0)) else (if a0 = 2 then ((interregnumref11_pref.f ((rd_T41 l3 a5).f2.f0) ((rd_T41 l3 a5).f2.f1) ((rd_T41 l3 a5).f2.f2) ((rd_T41 l3 a5).f2.f3) ((rd_T41 l3 a5).f2.f4) ((rd_T41 l3 a5).f2.f5) ((rd_T41 l3 a5).f2.f6)).bind fun t144 => (some (wrap64 (-t144)))) else (if a0 = 3 then ((interregnumref05_Length.f k ((rd_T41 l3 a5).f2.f1)).bind fun t145 => (some t145)) else (if a0 = 4 then (some ((rd_T41 l3 a5).f2.f0)) else (if a0 = 5 then ((interregnumref05_First.f k ((rd_T41 l3 a5).f2.f1)).bind fun bt146 => (interregnumref11_score.l0 k l3 l4 bt146.1 bt146.2 0 ((rd_T41 l3 a5).f0.f0) ((rd_T41 l3 a5).f0.f1) ((rd_T41 l3 a5).f1) ((rd_T41 l3 a5).f2.f0) ((rd_T41 l3 a5).f2.f1) ((rd_T41 l3 a5).f2.f2) ((rd_T41 l3 a5).f2.f3) ((rd_T41 l3 a5).f2.f4) ((rd_T41 l3 a5).f2.f5) ((rd_T41 l3 a5).f2.f6) ((rd_T41 l3 a5).f3))) else (if a0 = 6 then ((interregnumref11_info.f k l2 ((rd_T41 l3 a5).f1)).bind fun bt155 => (if bt155.2.1 = a1 then (some 1) else (some 0))) else (if a0 = 7 then ((interregnumref11_info.f k l2 ((rd_T41 l3 a5).f1)).bind fun bt158 => (some (wrap64 (bt158.2.2)))) else (some ((rd_T41 l3 a5).f1)))))))))) else (none)) else (none)
theorem interregnumref11_score.mono_l : ∀ k, (∀ y0 y1 y2 y3 y4 y5 y6 y7 y8 y9 y10 y11 y12 y13 y14 y15, LeO (interregnumref11_score.l0 k y0 y1 y2 y3 y4 y5 y6 y7 y8 y9 y10 y11 y12 y13 y14 y15) (interregnumref11_score.l0 (k + 1) y0 y1 y2 y3 y4 y5 y6 y7 y8 y9 y10 y11 y12 y13 y14 y15)) ∧ (∀ y0 y1 y2 y3 y4 y5 y6 y7 y8 y9 y10 y11 y12 y13 y14 y15 y16, LeO (interregnumref11_score.j1 k y0 y1 y2 y3 y4 y5 y6 y7 y8 y9 y10 y11 y12 y13 y14 y15 y16) (interregnumref11_score.j1 (k + 1) y0 y1 y2 y3 y4 y5 y6 y7 y8 y9 y10 y11 y12 y13 y14 y15 y16))
  | 0 => ⟨fun _ _ _ _ _ _ _ _ _ _ _ _ _ _ _ _ r h => by simp [interregnumref11_score.l0] at h, fun _ _ _ _ _ _ _ _ _ _ _ _ _ _ _ _ _ r h => by simp [interregnumref11_score.j1] at h⟩
  | k + 1 => by
    obtain ⟨ih0, ih1⟩ := interregnumref11_score.mono_l k
    refine ⟨?_, ?_⟩
    · intro y0 y1 y2 y3 y4 y5 y6 y7 y8 y9 y10 y11 y12 y13 y14 y15
      unfold interregnumref11_score.l0
      repeat' first
      | (with_reducible exact ih0 _ _ _ _ _ _ _ _ _ _ _ _ _ _ _ _)
      | (with_reducible exact ih1 _ _ _ _ _ _ _ _ _ _ _ _ _ _ _ _ _)
      | (with_reducible exact interregnumref05_First.mono _ _)
      | (with_reducible exact interregnumref05_Length.mono _ _)
      | (with_reducible exact interregnumref11_info.mono _ _ _)
      | (with_reducible exact LeO.refl _)
      | (with_reducible exact LeO.none _)
      | (with_reducible refine LeO.ite ?_ ?_)
      | (with_reducible refine LeO.bind ?_ (fun _ => ?_))
      | exact ih0 _ _ _ _ _ _ _ _ _ _ _ _ _ _ _ _
      | exact ih1 _ _ _ _ _ _ _ _ _ _ _ _ _ _ _ _ _
      | exact interregnumref05_First.mono _ _
      | exact interregnumref05_Length.mono _ _
      | exact interregnumref11_info.mono _ _ _
      | exact LeO.none _
      | refine LeO.ite ?_ ?_
      | refine LeO.bind ?_ (fun _ => ?_)
    · intro y0 y1 y2 y3 y4 y5 y6 y7 y8 y9 y10 y11 y12 y13 y14 y15 y16
      unfold interregnumref11_score.j1
      repeat' first
      | (with_reducible exact ih0 _ _ _ _ _ _ _ _ _ _ _ _ _ _ _ _)
      | (with_reducible exact ih1 _ _ _ _ _ _ _ _ _ _ _ _ _ _ _ _ _)
      | (with_reducible exact interregnumref05_First.mono _ _)
      | (with_reducible exact interregnumref05_Length.mono _ _)
      | (with_reducible exact interregnumref11_info.mono _ _ _)
      | (with_reducible exact LeO.refl _)
      | (with_reducible exact LeO.none _)
      | (with_reducible refine LeO.ite ?_ ?_)
      | (with_reducible refine LeO.bind ?_ (fun _ => ?_))
      | exact ih0 _ _ _ _ _ _ _ _ _ _ _ _ _ _ _ _
      | exact ih1 _ _ _ _ _ _ _ _ _ _ _ _ _ _ _ _ _
      | exact interregnumref05_First.mono _ _
      | exact interregnumref05_Length.mono _ _
      | exact interregnumref11_info.mono _ _ _
      | exact LeO.none _
      | refine LeO.ite ?_ ?_
      | refine LeO.bind ?_ (fun _ => ?_)
theorem interregnumref11_score.mono : ∀ a0 a1 a2 a3 a4 a5 k, LeO (interregnumref11_score.f k a0 a1 a2 a3 a4 a5) (interregnumref11_score.f (k + 1) a0 a1 a2 a3 a4 a5) := by
  intro a0 a1 a2 a3 a4 a5 k
  obtain ⟨ih0, ih1⟩ := interregnumref11_score.mono_l k
  unfold interregnumref11_score.f
  repeat' first
      | (with_reducible exact ih0 _ _ _ _ _ _ _ _ _ _ _ _ _ _ _ _)
      | (with_reducible exact ih1 _ _ _ _ _ _ _ _ _ _ _ _ _ _ _ _ _)
      | (with_reducible exact interregnumref05_First.mono _ _)
      | (with_reducible exact interregnumref05_Length.mono _ _)
      | (with_reducible exact interregnumref11_info.mono _ _ _)
      | (with_reducible exact LeO.refl _)
      | (with_reducible exact LeO.none _)
      | (with_reducible refine LeO.ite ?_ ?_)
      | (with_reducible refine LeO.bind ?_ (fun _ => ?_))
      | exact ih0 _ _ _ _ _ _ _ _ _ _ _ _ _ _ _ _
      | exact ih1 _ _ _ _ _ _ _ _ _ _ _ _ _ _ _ _ _
      | exact interregnumref05_First.mono _ _
      | exact interregnumref05_Length.mono _ _
      | exact interregnumref11_info.mono _ _ _
      | exact LeO.none _
      | refine LeO.ite ?_ ?_
      | refine LeO.bind ?_ (fun _ => ?_)
def interregnumref11_score.T24 : Bool × List (List Nat × List Nat) := (true, [([], []), ([0], [0]), ([1], [1]), ([1, 2], [1, 2]), ([3, 1], [3]), ([4], [4]), ([4], [4]), ([5, 6, 4], [4, 5, 6]), ([4, 7], [4, 7]), ([8, 4], [8]), ([9], [9]), ([10, 9], [9, 10]), ([11, 9, 9], [9, 11]), ([9], [9]), ([13, 9], [9, 13]), ([14, 12, 9], [9, 14]), ([12, 15, 9], [9, 12, 15]), ([9, 16], [9, 16])])
def interregnumref11_score.B24 : List Nat := [0, 1, 3, 7, 15, 31, 31, 127, 255, 511, 1023, 2047, 4095, 1023, 9215, 32767, 65535, 131071]
theorem interregnumref11_score.tab24 : rtab .any (opsOf Try.f31 24) = interregnumref11_score.T24 := by kernel_rfl
theorem interregnumref11_score.bits24 : waitsOk interregnumref11_score.T24.2 interregnumref11_score.B24 = true := by kernel_rfl
theorem rinfoFld1 (a b c : Value) (w : World) : Sem.run Try.prog (Instr.field 64 (.agg #[a, b, c]) 1) w = .ok b w := by
  have hu := Try.underlying64
  simp [Instr.field, underlying, hu]
  rfl
theorem rinfoFld2 (a b c : Value) (w : World) : Sem.run Try.prog (Instr.field 64 (.agg #[a, b, c]) 2) w = .ok c w := by
  have hu := Try.underlying64
  simp [Instr.field, underlying, hu]
  rfl
attribute [local go_sem] rinfoFld1 rinfoFld2
set_option maxHeartbeats 8000000 in
set_option maxRecDepth 100000 in
theorem interregnumref11_score.calls (k : Nat) (a0 : Int) (a1 : Int) (A2 : Option Addr) (c2 : Nat) (l2 : List (S64)) (A3 : Option Addr) (c3 : Nat) (l3 : List (S41)) (A4 : Option Addr) (c4 : Nat) (l4 : List Int) (a5 : Int) (r : Int) (w : World) (hr2 : Kd.C k64 w A2 l2.length l2) (hc2 : l2.length ≤ c2) (hr3 : Kd.C k41 w A3 l3.length l3) (hc3 : l3.length ≤ c3) (hr4 : Kd.C (Kd.int .i64) w A4 l4.length l4) (hc4 : l4.length ≤ c4) (h : interregnumref11_score.f k a0 a1 l2 l3 l4 a5 = some r) :
    Calls Try.prog 31 #[.int .i64 a0, .int .i64 a1, .slice A2 l2.length c2, .slice A3 l3.length c3, .slice A4 l4.length c4, .int .i64 a5] w fun e w' => e = .returned (.int .i64 r) ∧ Below w.heap.size w w' := by
 have hu41 := Try.underlying41
 have hu39 := Try.underlying39
 have hu64 := Try.underlying64
 have HR2 := Aside0.mk hr2
 have HC2 := Aside0.mk hc2
 clear hr2 hc2
 have HR3 := Aside0.mk hr3
 have HC3 := Aside0.mk hc3
 clear hr3 hc3
 have HR4 := Aside0.mk hr4
 have HC4 := Aside0.mk hc4
 clear hr4 hc4
 have HB := Aside0.mk (Below.refl w.heap.size w)
 have H : (if 0 ≤ a5 then (if a5 < (l3.length : Int) then (if a0 = 0 then (if ((rd_T41 l3 a5).f1) < 0 then (some 0) else (some 1)) else (if a0 = 1 then (if ((rd_T41 l3 a5).f3) = 2 then (some 1) else (some 0)) else (if a0 = 2 then ((interregnumref11_pref.f ((rd_T41 l3 a5).f2.f0) ((rd_T41 l3 a5).f2.f1) ((rd_T41 l3 a5).f2.f2) ((rd_T41 l3 a5).f2.f3) ((rd_T41 l3 a5).f2.f4) ((rd_T41 l3 a5).f2.f5) ((rd_T41 l3 a5).f2.f6)).bind fun t144 => (some (wrap64 (-t144)))) else (if a0 = 3 then ((interregnumref05_Length.f k ((rd_T41 l3 a5).f2.f1)).bind fun t145 => (some t145)) else (if a0 = 4 then (some ((rd_T41 l3 a5).f2.f0)) else (if a0 = 5 then ((interregnumref05_First.f k ((rd_T41 l3 a5).f2.f1)).bind fun bt146 => (interregnumref11_score.l0 k l3 l4 bt146.1 bt146.2 0 ((rd_T41 l3 a5).f0.f0) ((rd_T41 l3 a5).f0.f1) ((rd_T41 l3 a5).f1) ((rd_T41 l3 a5).f2.f0) ((rd_T41 l3 a5).f2.f1) ((rd_T41 l3 a5).f2.f2) ((rd_T41 l3 a5).f2.f3) ((rd_T41 l3 a5).f2.f4) ((rd_T41 l3 a5).f2.f5) ((rd_T41 l3 a5).f2.f6) ((rd_T41 l3 a5).f3))) else (if a0 = 6 then ((interregnumref11_info.f k l2 ((rd_T41 l3 a5).f1)).bind fun bt155 => (if bt155.2.1 = a1 then (some 1) else (some 0))) else (if a0 = 7 then ((interregnumref11_info.f k l2 ((rd_T41 l3 a5).f1)).bind fun bt158 => (some (wrap64 (bt158.2.2)))) else (some ((rd_T41 l3 a5).f1)))))))))) else (none)) else (none)) = some r := h
 clear h
 by_cases c7 : 0 ≤ a5
 rotate_left
 ·rw [if_neg c7] at H
  exact absurd H (by simp)
 rw [if_pos c7] at H
 have c7b0 : decide (0 ≤ a5) = true := decide_eq_true c7
 clear c7
 by_cases c8 : a5 < (l3.length : Int)
 rotate_left
 ·rw [if_neg c8] at H
  exact absurd H (by simp)
 rw [if_pos c8] at H
 have c8b0 : decide (a5 < (l3.length : Int)) = true := decide_eq_true c8
 clear c8
 by_cases c9 : a0 = 0
 ·rw [if_pos c9] at H
  have c9b0 : (a0 == 0) = true := beq_iff_eq.mpr c9
  have c9b1 : (a0 != 0) = false := bne_eq_false_iff_eq.mpr c9
  clear c9
  by_cases c10 : ((rd_T41 l3 a5).f1) < 0
  ·rw [if_pos c10] at H
   have c10b0 : decide (((rd_T41 l3 a5).f1) < 0) = true := decide_eq_true c10
   clear c10
   obtain rfl := Option.some.inj H
   have p142 : 0 ≤ (a5 : Int) := of_decide_eq_true (by first | (with_reducible assumption) | assumption)
   have q142 : a5 < (l3.length : Int) := of_decide_eq_true (by first | (with_reducible assumption) | assumption)
   obtain ⟨ad142, A142_4, c142_4, A142_8, c142_8, A142_9, c142_9, e142, hx142_0, hx142_1, hx142_2, hx142_3, hx142_4, hx142_5, hx142_6, hx142_7, hx142_8, hx142_9, hx142_10, hl142_4, hi142_4, hl142_8, hi142_8, hl142_9, hi142_9⟩ := at_T41 HR3.out a5 p142 q142
   cases e142
   have HR142_4 := Aside0.mk hi142_4
   have HC142_4 := Aside0.mk hl142_4
   clear hi142_4 hl142_4
   have HR142_8 := Aside0.mk hi142_8
   have HC142_8 := Aside0.mk hl142_8
   clear hi142_8 hl142_8
   have HR142_9 := Aside0.mk hi142_9
   have HC142_9 := Aside0.mk hl142_9
   clear hi142_9 hl142_9
   replace p142 := eq_true p142
   replace q142 := eq_true q142
   go_enter Try.func31, Try.ntmps31
   go_wp2_with (first | ((with_reducible refine gate_dst (N := 13) rfl ?_); refine box_event ?hg (N := 13) ?hd (cs := #[.int .u32 0, .int .i64 0, .int .i64 0, .int .i64 0, .slice none 0 0, .int .u32 0, .int .i64 0, .int .i64 0, .slice none 0 0, .slice none 0 0, .int .i64 0]) (t := 41) ?hr ?_; (case hd => rfl); (case hg => rfl); (case hr => first | (go_simp; done) | (go_simp; rfl) | (go_simp; simp [IntKind.wrap_u8, IntKind.wrap_u32]; done)); intro gb143 hg w11 hbox hb; have n0_ := Aside0.mk (below_step (by repeat (first | (with_reducible first | exact HB.out | apply below_alloc | apply pw_below_drewN | apply below_drew1) | exact HB.out)) hb); have n1_ := Aside0.mk (hbox); have n2_ := Aside0.mk ((by rw [hg]; exact (below_size (by repeat (first | (with_reducible first | exact HB.out | apply below_alloc | apply pw_below_drewN | apply below_drew1) | exact HB.out))) : w.heap.size ≤ gb143)); have n3_ := Aside0.mk ((by rw [hg]; exact (below_size (by repeat (first | (with_reducible first | exact HB.out | apply below_alloc | apply pw_below_drewN | apply below_drew1) | exact HB.out))) : w.heap.size ≤ gb143)); clear HB; have HB := n0_; have BK143 := n1_; have GW143 := n2_; have GE143 := n3_; clear n0_ n1_ n2_ n3_; clear hb hbox hg; have hcz12_0 : w11.cell? ⟨gb143, 0, none⟩ = some (.int .u32 0) := (blk_cell BK143.out 0).trans rfl; have hcz12_1 : w11.cell? ⟨gb143, 1, none⟩ = some (.int .i64 0) := (blk_cell BK143.out 1).trans rfl; have hcz12_2 : w11.cell? ⟨gb143, 2, none⟩ = some (.int .i64 0) := (blk_cell BK143.out 2).trans rfl; have hcz12_3 : w11.cell? ⟨gb143, 3, none⟩ = some (.int .i64 0) := (blk_cell BK143.out 3).trans rfl; have hcz12_4 : w11.cell? ⟨gb143, 4, none⟩ = some (.slice none 0 0) := (blk_cell BK143.out 4).trans rfl; have hcz12_5 : w11.cell? ⟨gb143, 5, none⟩ = some (.int .u32 0) := (blk_cell BK143.out 5).trans rfl; have hcz12_6 : w11.cell? ⟨gb143, 6, none⟩ = some (.int .i64 0) := (blk_cell BK143.out 6).trans rfl; have hcz12_7 : w11.cell? ⟨gb143, 7, none⟩ = some (.int .i64 0) := (blk_cell BK143.out 7).trans rfl; have hcz12_8 : w11.cell? ⟨gb143, 8, none⟩ = some (.slice none 0 0) := (blk_cell BK143.out 8).trans rfl; have hcz12_9 : w11.cell? ⟨gb143, 9, none⟩ = some (.slice none 0 0) := (blk_cell BK143.out 9).trans rfl; have hcz12_10 : w11.cell? ⟨gb143, 10, none⟩ = some (.int .i64 0) := (blk_cell BK143.out 10).trans rfl; have hfz12_0 := blk_frozen BK143.out 0; have hfz12_1 := blk_frozen BK143.out 1; have hfz12_2 := blk_frozen BK143.out 2; have hfz12_3 := blk_frozen BK143.out 3; have hfz12_4 := blk_frozen BK143.out 4; have hfz12_5 := blk_frozen BK143.out 5; have hfz12_6 := blk_frozen BK143.out 6; have hfz12_7 := blk_frozen BK143.out 7; have hfz12_8 := blk_frozen BK143.out 8; have hfz12_9 := blk_frozen BK143.out 9; have hfz12_10 := blk_frozen BK143.out 10))
   go_ret
   exact ⟨by first | rfl | (simp [errW_none, errW_some] <;> rfl) | (simp [*, errW_none, errW_some] <;> rfl), by repeat (first | (with_reducible first | exact HB.out | apply below_alloc | apply pw_below_drewN | apply below_drew1 | refine below_set ?_ GE143.out) | exact HB.out)⟩
  rw [if_neg c10] at H
  have c10b0 : decide (((rd_T41 l3 a5).f1) < 0) = false := decide_eq_false c10
  clear c10
  obtain rfl := Option.some.inj H
  have p142 : 0 ≤ (a5 : Int) := of_decide_eq_true (by first | (with_reducible assumption) | assumption)
  have q142 : a5 < (l3.length : Int) := of_decide_eq_true (by first | (with_reducible assumption) | assumption)
  obtain ⟨ad142, A142_4, c142_4, A142_8, c142_8, A142_9, c142_9, e142, hx142_0, hx142_1, hx142_2, hx142_3, hx142_4, hx142_5, hx142_6, hx142_7, hx142_8, hx142_9, hx142_10, hl142_4, hi142_4, hl142_8, hi142_8, hl142_9, hi142_9⟩ := at_T41 HR3.out a5 p142 q142
  cases e142
  have HR142_4 := Aside0.mk hi142_4
  have HC142_4 := Aside0.mk hl142_4
  clear hi142_4 hl142_4
  have HR142_8 := Aside0.mk hi142_8
  have HC142_8 := Aside0.mk hl142_8
  clear hi142_8 hl142_8
  have HR142_9 := Aside0.mk hi142_9
  have HC142_9 := Aside0.mk hl142_9
  clear hi142_9 hl142_9
  replace p142 := eq_true p142
  replace q142 := eq_true q142
  go_enter Try.func31, Try.ntmps31
  go_wp2_with (first | ((with_reducible refine gate_dst (N := 13) rfl ?_); refine box_event ?hg (N := 13) ?hd (cs := #[.int .u32 0, .int .i64 0, .int .i64 0, .int .i64 0, .slice none 0 0, .int .u32 0, .int .i64 0, .int .i64 0, .slice none 0 0, .slice none 0 0, .int .i64 0]) (t := 41) ?hr ?_; (case hd => rfl); (case hg => rfl); (case hr => first | (go_simp; done) | (go_simp; rfl) | (go_simp; simp [IntKind.wrap_u8, IntKind.wrap_u32]; done)); intro gb143 hg w13 hbox hb; have n0_ := Aside0.mk (below_step (by repeat (first | (with_reducible first | exact HB.out | apply below_alloc | apply pw_below_drewN | apply below_drew1) | exact HB.out)) hb); have n1_ := Aside0.mk (hbox); have n2_ := Aside0.mk ((by rw [hg]; exact (below_size (by repeat (first | (with_reducible first | exact HB.out | apply below_alloc | apply pw_below_drewN | apply below_drew1) | exact HB.out))) : w.heap.size ≤ gb143)); have n3_ := Aside0.mk ((by rw [hg]; exact (below_size (by repeat (first | (with_reducible first | exact HB.out | apply below_alloc | apply pw_below_drewN | apply below_drew1) | exact HB.out))) : w.heap.size ≤ gb143)); clear HB; have HB := n0_; have BK143 := n1_; have GW143 := n2_; have GE143 := n3_; clear n0_ n1_ n2_ n3_; clear hb hbox hg; have hcz14_0 : w13.cell? ⟨gb143, 0, none⟩ = some (.int .u32 0) := (blk_cell BK143.out 0).trans rfl; have hcz14_1 : w13.cell? ⟨gb143, 1, none⟩ = some (.int .i64 0) := (blk_cell BK143.out 1).trans rfl; have hcz14_2 : w13.cell? ⟨gb143, 2, none⟩ = some (.int .i64 0) := (blk_cell BK143.out 2).trans rfl; have hcz14_3 : w13.cell? ⟨gb143, 3, none⟩ = some (.int .i64 0) := (blk_cell BK143.out 3).trans rfl; have hcz14_4 : w13.cell? ⟨gb143, 4, none⟩ = some (.slice none 0 0) := (blk_cell BK143.out 4).trans rfl; have hcz14_5 : w13.cell? ⟨gb143, 5, none⟩ = some (.int .u32 0) := (blk_cell BK143.out 5).trans rfl; have hcz14_6 : w13.cell? ⟨gb143, 6, none⟩ = some (.int .i64 0) := (blk_cell BK143.out 6).trans rfl; have hcz14_7 : w13.cell? ⟨gb143, 7, none⟩ = some (.int .i64 0) := (blk_cell BK143.out 7).trans rfl; have hcz14_8 : w13.cell? ⟨gb143, 8, none⟩ = some (.slice none 0 0) := (blk_cell BK143.out 8).trans rfl; have hcz14_9 : w13.cell? ⟨gb143, 9, none⟩ = some (.slice none 0 0) := (blk_cell BK143.out 9).trans rfl; have hcz14_10 : w13.cell? ⟨gb143, 10, none⟩ = some (.int .i64 0) := (blk_cell BK143.out 10).trans rfl; have hfz14_0 := blk_frozen BK143.out 0; have hfz14_1 := blk_frozen BK143.out 1; have hfz14_2 := blk_frozen BK143.out 2; have hfz14_3 := blk_frozen BK143.out 3; have hfz14_4 := blk_frozen BK143.out 4; have hfz14_5 := blk_frozen BK143.out 5; have hfz14_6 := blk_frozen BK143.out 6; have hfz14_7 := blk_frozen BK143.out 7; have hfz14_8 := blk_frozen BK143.out 8; have hfz14_9 := blk_frozen BK143.out 9; have hfz14_10 := blk_frozen BK143.out 10))
  go_ret
  exact ⟨by first | rfl | (simp [errW_none, errW_some] <;> rfl) | (simp [*, errW_none, errW_some] <;> rfl), by repeat (first | (with_reducible first | exact HB.out | apply below_alloc | apply pw_below_drewN | apply below_drew1 | refine below_set ?_ GE143.out) | exact HB.out)⟩
 rw [if_neg c9] at H
 have c9b0 : (a0 == 0) = false := beq_eq_false_iff_ne.mpr c9
 have c9b1 : (a0 != 0) = true := bne_iff_ne.mpr c9
 by_cases c15 : a0 = 1
 ·rw [if_pos c15] at H
  have c15b0 : (a0 == 1) = true := beq_iff_eq.mpr c15
  have c15b1 : (a0 != 1) = false := bne_eq_false_iff_eq.mpr c15
  clear c15
  by_cases c16 : ((rd_T41 l3 a5).f3) = 2
  rotate_left
  ·rw [if_neg c16] at H
   have c16b0 : (((rd_T41 l3 a5).f3) == 2) = false := beq_eq_false_iff_ne.mpr c16
   have c16b1 : (((rd_T41 l3 a5).f3) != 2) = true := bne_iff_ne.mpr c16
   obtain rfl := Option.some.inj H
   have p142 : 0 ≤ (a5 : Int) := of_decide_eq_true (by first | (with_reducible assumption) | assumption)
   have q142 : a5 < (l3.length : Int) := of_decide_eq_true (by first | (with_reducible assumption) | assumption)
   obtain ⟨ad142, A142_4, c142_4, A142_8, c142_8, A142_9, c142_9, e142, hx142_0, hx142_1, hx142_2, hx142_3, hx142_4, hx142_5, hx142_6, hx142_7, hx142_8, hx142_9, hx142_10, hl142_4, hi142_4, hl142_8, hi142_8, hl142_9, hi142_9⟩ := at_T41 HR3.out a5 p142 q142
   cases e142
   have HR142_4 := Aside0.mk hi142_4
   have HC142_4 := Aside0.mk hl142_4
   clear hi142_4 hl142_4
   have HR142_8 := Aside0.mk hi142_8
   have HC142_8 := Aside0.mk hl142_8
   clear hi142_8 hl142_8
   have HR142_9 := Aside0.mk hi142_9
   have HC142_9 := Aside0.mk hl142_9
   clear hi142_9 hl142_9
   replace p142 := eq_true p142
   replace q142 := eq_true q142
   go_enter Try.func31, Try.ntmps31
   go_wp2_with (first | ((with_reducible refine gate_dst (N := 13) rfl ?_); refine box_event ?hg (N := 13) ?hd (cs := #[.int .u32 0, .int .i64 0, .int .i64 0, .int .i64 0, .slice none 0 0, .int .u32 0, .int .i64 0, .int .i64 0, .slice none 0 0, .slice none 0 0, .int .i64 0]) (t := 41) ?hr ?_; (case hd => rfl); (case hg => rfl); (case hr => first | (go_simp; done) | (go_simp; rfl) | (go_simp; simp [IntKind.wrap_u8, IntKind.wrap_u32]; done)); intro gb143 hg w19 hbox hb; have n0_ := Aside0.mk (below_step (by repeat (first | (with_reducible first | exact HB.out | apply below_alloc | apply pw_below_drewN | apply below_drew1) | exact HB.out)) hb); have n1_ := Aside0.mk (hbox); have n2_ := Aside0.mk ((by rw [hg]; exact (below_size (by repeat (first | (with_reducible first | exact HB.out | apply below_alloc | apply pw_below_drewN | apply below_drew1) | exact HB.out))) : w.heap.size ≤ gb143)); have n3_ := Aside0.mk ((by rw [hg]; exact (below_size (by repeat (first | (with_reducible first | exact HB.out | apply below_alloc | apply pw_below_drewN | apply below_drew1) | exact HB.out))) : w.heap.size ≤ gb143)); clear HB; have HB := n0_; have BK143 := n1_; have GW143 := n2_; have GE143 := n3_; clear n0_ n1_ n2_ n3_; clear hb hbox hg; have hcz20_0 : w19.cell? ⟨gb143, 0, none⟩ = some (.int .u32 0) := (blk_cell BK143.out 0).trans rfl; have hcz20_1 : w19.cell? ⟨gb143, 1, none⟩ = some (.int .i64 0) := (blk_cell BK143.out 1).trans rfl; have hcz20_2 : w19.cell? ⟨gb143, 2, none⟩ = some (.int .i64 0) := (blk_cell BK143.out 2).trans rfl; have hcz20_3 : w19.cell? ⟨gb143, 3, none⟩ = some (.int .i64 0) := (blk_cell BK143.out 3).trans rfl; have hcz20_4 : w19.cell? ⟨gb143, 4, none⟩ = some (.slice none 0 0) := (blk_cell BK143.out 4).trans rfl; have hcz20_5 : w19.cell? ⟨gb143, 5, none⟩ = some (.int .u32 0) := (blk_cell BK143.out 5).trans rfl; have hcz20_6 : w19.cell? ⟨gb143, 6, none⟩ = some (.int .i64 0) := (blk_cell BK143.out 6).trans rfl; have hcz20_7 : w19.cell? ⟨gb143, 7, none⟩ = some (.int .i64 0) := (blk_cell BK143.out 7).trans rfl; have hcz20_8 : w19.cell? ⟨gb143, 8, none⟩ = some (.slice none 0 0) := (blk_cell BK143.out 8).trans rfl; have hcz20_9 : w19.cell? ⟨gb143, 9, none⟩ = some (.slice none 0 0) := (blk_cell BK143.out 9).trans rfl; have hcz20_10 : w19.cell? ⟨gb143, 10, none⟩ = some (.int .i64 0) := (blk_cell BK143.out 10).trans rfl; have hfz20_0 := blk_frozen BK143.out 0; have hfz20_1 := blk_frozen BK143.out 1; have hfz20_2 := blk_frozen BK143.out 2; have hfz20_3 := blk_frozen BK143.out 3; have hfz20_4 := blk_frozen BK143.out 4; have hfz20_5 := blk_frozen BK143.out 5; have hfz20_6 := blk_frozen BK143.out 6; have hfz20_7 := blk_frozen BK143.out 7; have hfz20_8 := blk_frozen BK143.out 8; have hfz20_9 := blk_frozen BK143.out 9; have hfz20_10 := blk_frozen BK143.out 10))
   go_ret
   exact ⟨by first | rfl | (simp [errW_none, errW_some] <;> rfl) | (simp [*, errW_none, errW_some] <;> rfl), by repeat (first | (with_reducible first | exact HB.out | apply below_alloc | apply pw_below_drewN | apply below_drew1 | refine below_set ?_ GE143.out) | exact HB.out)⟩
  rw [if_pos c16] at H
  have c16b0 : (((rd_T41 l3 a5).f3) == 2) = true := beq_iff_eq.mpr c16
  have c16b1 : (((rd_T41 l3 a5).f3) != 2) = false := bne_eq_false_iff_eq.mpr c16
  clear c16
  obtain rfl := Option.some.inj H
  have p142 : 0 ≤ (a5 : Int) := of_decide_eq_true (by first | (with_reducible assumption) | assumption)
  have q142 : a5 < (l3.length : Int) := of_decide_eq_true (by first | (with_reducible assumption) | assumption)
  obtain ⟨ad142, A142_4, c142_4, A142_8, c142_8, A142_9, c142_9, e142, hx142_0, hx142_1, hx142_2, hx142_3, hx142_4, hx142_5, hx142_6, hx142_7, hx142_8, hx142_9, hx142_10, hl142_4, hi142_4, hl142_8, hi142_8, hl142_9, hi142_9⟩ := at_T41 HR3.out a5 p142 q142
  cases e142
  have HR142_4 := Aside0.mk hi142_4
  have HC142_4 := Aside0.mk hl142_4
  clear hi142_4 hl142_4
  have HR142_8 := Aside0.mk hi142_8
  have HC142_8 := Aside0.mk hl142_8
  clear hi142_8 hl142_8
  have HR142_9 := Aside0.mk hi142_9
  have HC142_9 := Aside0.mk hl142_9
  clear hi142_9 hl142_9
  replace p142 := eq_true p142
  replace q142 := eq_true q142
  go_enter Try.func31, Try.ntmps31
  go_wp2_with (first | ((with_reducible refine gate_dst (N := 13) rfl ?_); refine box_event ?hg (N := 13) ?hd (cs := #[.int .u32 0, .int .i64 0, .int .i64 0, .int .i64 0, .slice none 0 0, .int .u32 0, .int .i64 0, .int .i64 0, .slice none 0 0, .slice none 0 0, .int .i64 0]) (t := 41) ?hr ?_; (case hd => rfl); (case hg => rfl); (case hr => first | (go_simp; done) | (go_simp; rfl) | (go_simp; simp [IntKind.wrap_u8, IntKind.wrap_u32]; done)); intro gb143 hg w17 hbox hb; have n0_ := Aside0.mk (below_step (by repeat (first | (with_reducible first | exact HB.out | apply below_alloc | apply pw_below_drewN | apply below_drew1) | exact HB.out)) hb); have n1_ := Aside0.mk (hbox); have n2_ := Aside0.mk ((by rw [hg]; exact (below_size (by repeat (first | (with_reducible first | exact HB.out | apply below_alloc | apply pw_below_drewN | apply below_drew1) | exact HB.out))) : w.heap.size ≤ gb143)); have n3_ := Aside0.mk ((by rw [hg]; exact (below_size (by repeat (first | (with_reducible first | exact HB.out | apply below_alloc | apply pw_below_drewN | apply below_drew1) | exact HB.out))) : w.heap.size ≤ gb143)); clear HB; have HB := n0_; have BK143 := n1_; have GW143 := n2_; have GE143 := n3_; clear n0_ n1_ n2_ n3_; clear hb hbox hg; have hcz18_0 : w17.cell? ⟨gb143, 0, none⟩ = some (.int .u32 0) := (blk_cell BK143.out 0).trans rfl; have hcz18_1 : w17.cell? ⟨gb143, 1, none⟩ = some (.int .i64 0) := (blk_cell BK143.out 1).trans rfl; have hcz18_2 : w17.cell? ⟨gb143, 2, none⟩ = some (.int .i64 0) := (blk_cell BK143.out 2).trans rfl; have hcz18_3 : w17.cell? ⟨gb143, 3, none⟩ = some (.int .i64 0) := (blk_cell BK143.out 3).trans rfl; have hcz18_4 : w17.cell? ⟨gb143, 4, none⟩ = some (.slice none 0 0) := (blk_cell BK143.out 4).trans rfl; have hcz18_5 : w17.cell? ⟨gb143, 5, none⟩ = some (.int .u32 0) := (blk_cell BK143.out 5).trans rfl; have hcz18_6 : w17.cell? ⟨gb143, 6, none⟩ = some (.int .i64 0) := (blk_cell BK143.out 6).trans rfl; have hcz18_7 : w17.cell? ⟨gb143, 7, none⟩ = some (.int .i64 0) := (blk_cell BK143.out 7).trans rfl; have hcz18_8 : w17.cell? ⟨gb143, 8, none⟩ = some (.slice none 0 0) := (blk_cell BK143.out 8).trans rfl; have hcz18_9 : w17.cell? ⟨gb143, 9, none⟩ = some (.slice none 0 0) := (blk_cell BK143.out 9).trans rfl; have hcz18_10 : w17.cell? ⟨gb143, 10, none⟩ = some (.int .i64 0) := (blk_cell BK143.out 10).trans rfl; have hfz18_0 := blk_frozen BK143.out 0; have hfz18_1 := blk_frozen BK143.out 1; have hfz18_2 := blk_frozen BK143.out 2; have hfz18_3 := blk_frozen BK143.out 3; have hfz18_4 := blk_frozen BK143.out 4; have hfz18_5 := blk_frozen BK143.out 5; have hfz18_6 := blk_frozen BK143.out 6; have hfz18_7 := blk_frozen BK143.out 7; have hfz18_8 := blk_frozen BK143.out 8; have hfz18_9 := blk_frozen BK143.out 9; have hfz18_10 := blk_frozen BK143.out 10))
  go_ret
  exact ⟨by first | rfl | (simp [errW_none, errW_some] <;> rfl) | (simp [*, errW_none, errW_some] <;> rfl), by repeat (first | (with_reducible first | exact HB.out | apply below_alloc | apply pw_below_drewN | apply below_drew1 | refine below_set ?_ GE143.out) | exact HB.out)⟩
 rw [if_neg c15] at H
 have c15b0 : (a0 == 1) = false := beq_eq_false_iff_ne.mpr c15
 have c15b1 : (a0 != 1) = true := bne_iff_ne.mpr c15
 by_cases c21 : a0 = 2
 ·rw [if_pos c21] at H
  have c21b0 : (a0 == 2) = true := beq_iff_eq.mpr c21
  have c21b1 : (a0 != 2) = false := bne_eq_false_iff_eq.mpr c21
  clear c21
  replace H := Option.bind_eq_some_iff.mp H
  obtain ⟨t144, A220, H⟩ := H
  replace H : (some (wrap64 (-t144))) = some r := H
  have A22 := Aside0.mk A220
  clear A220
  obtain rfl := Option.some.inj H
  have p142 : 0 ≤ (a5 : Int) := of_decide_eq_true (by first | (with_reducible assumption) | assumption)
  have q142 : a5 < (l3.length : Int) := of_decide_eq_true (by first | (with_reducible assumption) | assumption)
  obtain ⟨ad142, A142_4, c142_4, A142_8, c142_8, A142_9, c142_9, e142, hx142_0, hx142_1, hx142_2, hx142_3, hx142_4, hx142_5, hx142_6, hx142_7, hx142_8, hx142_9, hx142_10, hl142_4, hi142_4, hl142_8, hi142_8, hl142_9, hi142_9⟩ := at_T41 HR3.out a5 p142 q142
  cases e142
  have HR142_4 := Aside0.mk hi142_4
  have HC142_4 := Aside0.mk hl142_4
  clear hi142_4 hl142_4
  have HR142_8 := Aside0.mk hi142_8
  have HC142_8 := Aside0.mk hl142_8
  clear hi142_8 hl142_8
  have HR142_9 := Aside0.mk hi142_9
  have HC142_9 := Aside0.mk hl142_9
  clear hi142_9 hl142_9
  replace p142 := eq_true p142
  replace q142 := eq_true q142
  go_enter Try.func31, Try.ntmps31
  go_wp2_with (first | ((with_reducible refine gate_dst (N := 13) rfl ?_); refine box_event ?hg (N := 13) ?hd (cs := #[.int .u32 0, .int .i64 0, .int .i64 0, .int .i64 0, .slice none 0 0, .int .u32 0, .int .i64 0, .int .i64 0, .slice none 0 0, .slice none 0 0, .int .i64 0]) (t := 41) ?hr ?_; (case hd => rfl); (case hg => rfl); (case hr => first | (go_simp; done) | (go_simp; rfl) | (go_simp; simp [IntKind.wrap_u8, IntKind.wrap_u32]; done)); intro gb143 hg w23 hbox hb; have n0_ := Aside0.mk (below_step (by repeat (first | (with_reducible first | exact HB.out | apply below_alloc | apply pw_below_drewN | apply below_drew1) | exact HB.out)) hb); have n1_ := Aside0.mk (hbox); have n2_ := Aside0.mk ((by rw [hg]; exact (below_size (by repeat (first | (with_reducible first | exact HB.out | apply below_alloc | apply pw_below_drewN | apply below_drew1) | exact HB.out))) : w.heap.size ≤ gb143)); have n3_ := Aside0.mk ((by rw [hg]; exact (below_size (by repeat (first | (with_reducible first | exact HB.out | apply below_alloc | apply pw_below_drewN | apply below_drew1) | exact HB.out))) : w.heap.size ≤ gb143)); clear HB; have HB := n0_; have BK143 := n1_; have GW143 := n2_; have GE143 := n3_; clear n0_ n1_ n2_ n3_; clear hb hbox hg; have hcz24_0 : w23.cell? ⟨gb143, 0, none⟩ = some (.int .u32 0) := (blk_cell BK143.out 0).trans rfl; have hcz24_1 : w23.cell? ⟨gb143, 1, none⟩ = some (.int .i64 0) := (blk_cell BK143.out 1).trans rfl; have hcz24_2 : w23.cell? ⟨gb143, 2, none⟩ = some (.int .i64 0) := (blk_cell BK143.out 2).trans rfl; have hcz24_3 : w23.cell? ⟨gb143, 3, none⟩ = some (.int .i64 0) := (blk_cell BK143.out 3).trans rfl; have hcz24_4 : w23.cell? ⟨gb143, 4, none⟩ = some (.slice none 0 0) := (blk_cell BK143.out 4).trans rfl; have hcz24_5 : w23.cell? ⟨gb143, 5, none⟩ = some (.int .u32 0) := (blk_cell BK143.out 5).trans rfl; have hcz24_6 : w23.cell? ⟨gb143, 6, none⟩ = some (.int .i64 0) := (blk_cell BK143.out 6).trans rfl; have hcz24_7 : w23.cell? ⟨gb143, 7, none⟩ = some (.int .i64 0) := (blk_cell BK143.out 7).trans rfl; have hcz24_8 : w23.cell? ⟨gb143, 8, none⟩ = some (.slice none 0 0) := (blk_cell BK143.out 8).trans rfl; have hcz24_9 : w23.cell? ⟨gb143, 9, none⟩ = some (.slice none 0 0) := (blk_cell BK143.out 9).trans rfl; have hcz24_10 : w23.cell? ⟨gb143, 10, none⟩ = some (.int .i64 0) := (blk_cell BK143.out 10).trans rfl; have hfz24_0 := blk_frozen BK143.out 0; have hfz24_1 := blk_frozen BK143.out 1; have hfz24_2 := blk_frozen BK143.out 2; have hfz24_3 := blk_frozen BK143.out 3; have hfz24_4 := blk_frozen BK143.out 4; have hfz24_5 := blk_frozen BK143.out 5; have hfz24_6 := blk_frozen BK143.out 6; have hfz24_7 := blk_frozen BK143.out 7; have hfz24_8 := blk_frozen BK143.out 8; have hfz24_9 := blk_frozen BK143.out 9; have hfz24_10 := blk_frozen BK143.out 10) | ((with_reducible refine gate_callee (f := 41) rfl ?_); refine goesL_ (some 39) rfl rfl Try.func41 (by kernel_rfl) rfl #[.agg #[.int .i64 ((rd_T41 l3 a5).f2.f0), .slice A142_4 ((rd_T41 l3 a5).f2.f1).length c142_4, .int .u32 ((rd_T41 l3 a5).f2.f2), .int .i64 ((rd_T41 l3 a5).f2.f3), .int .i64 ((rd_T41 l3 a5).f2.f4), .slice A142_8 ((rd_T41 l3 a5).f2.f5).length c142_8, .slice A142_9 ((rd_T41 l3 a5).f2.f6).length c142_9]] rfl (by (try simp only [List.map_toArray, List.map_cons, List.map_nil]); first | done | rfl | (simp only [List.length_drop, List.length_take]; rfl)) ?_; (with_reducible refine (interregnumref11_pref.calls ((rd_T41 l3 a5).f2.f0) _ _ ((rd_T41 l3 a5).f2.f1) ((rd_T41 l3 a5).f2.f2) ((rd_T41 l3 a5).f2.f3) ((rd_T41 l3 a5).f2.f4) _ _ ((rd_T41 l3 a5).f2.f5) _ _ ((rd_T41 l3 a5).f2.f6) t144 _ ?side1 ?side2 ?side3 ?side4 ?side5 ?side6 A22.out).mono ?_); (case side1 => exact Kd.C_below HR142_4.out (by repeat (first | (with_reducible first | exact HB.out | apply below_alloc | apply pw_below_drewN | apply below_drew1 | refine below_set ?_ GE143.out) | exact HB.out))); (case side2 => exact HC142_4.out); (case side3 => exact Kd.C_below HR142_8.out (by repeat (first | (with_reducible first | exact HB.out | apply below_alloc | apply pw_below_drewN | apply below_drew1 | refine below_set ?_ GE143.out) | exact HB.out))); (case side4 => exact HC142_8.out); (case side5 => exact Kd.C_below HR142_9.out (by repeat (first | (with_reducible first | exact HB.out | apply below_alloc | apply pw_below_drewN | apply below_drew1 | refine below_set ?_ GE143.out) | exact HB.out))); (case side6 => exact HC142_9.out); rintro e w25 ⟨rfl, hb⟩; refine ⟨_, rfl, ?_⟩; have n0_ := Aside0.mk (blk_below (g := gb143) (o := .cells #[.int .u32 ((rd_T41 l3 a5).f0.f0), .int .i64 ((rd_T41 l3 a5).f0.f1), .int .i64 ((rd_T41 l3 a5).f1), .int .i64 ((rd_T41 l3 a5).f2.f0), .slice A142_4 ((rd_T41 l3 a5).f2.f1).length c142_4, .int .u32 ((rd_T41 l3 a5).f2.f2), .int .i64 ((rd_T41 l3 a5).f2.f3), .int .i64 ((rd_T41 l3 a5).f2.f4), .slice A142_8 ((rd_T41 l3 a5).f2.f5).length c142_8, .slice A142_9 ((rd_T41 l3 a5).f2.f6).length c142_9, .int .i64 ((rd_T41 l3 a5).f3)] 41 (0, 0)) (by (with_reducible repeat (first | refine blk_drewN ?_ _ | refine blk_drew ?_ | refine blk_alloc ?_ _)); refine blk_put (cs := #[.int .u32 ((rd_T41 l3 a5).f0.f0), .int .i64 ((rd_T41 l3 a5).f0.f1), .int .i64 ((rd_T41 l3 a5).f1), .int .i64 ((rd_T41 l3 a5).f2.f0), .slice A142_4 ((rd_T41 l3 a5).f2.f1).length c142_4, .int .u32 ((rd_T41 l3 a5).f2.f2), .int .i64 ((rd_T41 l3 a5).f2.f3), .int .i64 ((rd_T41 l3 a5).f2.f4), .slice A142_8 ((rd_T41 l3 a5).f2.f5).length c142_8, .slice A142_9 ((rd_T41 l3 a5).f2.f6).length c142_9, .int .i64 0]) ?_ 10 _ rfl; (with_reducible repeat (first | refine blk_drewN ?_ _ | refine blk_drew ?_ | refine blk_alloc ?_ _)); refine blk_put (cs := #[.int .u32 ((rd_T41 l3 a5).f0.f0), .int .i64 ((rd_T41 l3 a5).f0.f1), .int .i64 ((rd_T41 l3 a5).f1), .int .i64 ((rd_T41 l3 a5).f2.f0), .slice A142_4 ((rd_T41 l3 a5).f2.f1).length c142_4, .int .u32 ((rd_T41 l3 a5).f2.f2), .int .i64 ((rd_T41 l3 a5).f2.f3), .int .i64 ((rd_T41 l3 a5).f2.f4), .slice A142_8 ((rd_T41 l3 a5).f2.f5).length c142_8, .slice none 0 0, .int .i64 0]) ?_ 9 _ rfl; (with_reducible repeat (first | refine blk_drewN ?_ _ | refine blk_drew ?_ | refine blk_alloc ?_ _)); refine blk_put (cs := #[.int .u32 ((rd_T41 l3 a5).f0.f0), .int .i64 ((rd_T41 l3 a5).f0.f1), .int .i64 ((rd_T41 l3 a5).f1), .int .i64 ((rd_T41 l3 a5).f2.f0), .slice A142_4 ((rd_T41 l3 a5).f2.f1).length c142_4, .int .u32 ((rd_T41 l3 a5).f2.f2), .int .i64 ((rd_T41 l3 a5).f2.f3), .int .i64 ((rd_T41 l3 a5).f2.f4), .slice none 0 0, .slice none 0 0, .int .i64 0]) ?_ 8 _ rfl; (with_reducible repeat (first | refine blk_drewN ?_ _ | refine blk_drew ?_ | refine blk_alloc ?_ _)); refine blk_put (cs := #[.int .u32 ((rd_T41 l3 a5).f0.f0), .int .i64 ((rd_T41 l3 a5).f0.f1), .int .i64 ((rd_T41 l3 a5).f1), .int .i64 ((rd_T41 l3 a5).f2.f0), .slice A142_4 ((rd_T41 l3 a5).f2.f1).length c142_4, .int .u32 ((rd_T41 l3 a5).f2.f2), .int .i64 ((rd_T41 l3 a5).f2.f3), .int .i64 0, .slice none 0 0, .slice none 0 0, .int .i64 0]) ?_ 7 _ rfl; (with_reducible repeat (first | refine blk_drewN ?_ _ | refine blk_drew ?_ | refine blk_alloc ?_ _)); refine blk_put (cs := #[.int .u32 ((rd_T41 l3 a5).f0.f0), .int .i64 ((rd_T41 l3 a5).f0.f1), .int .i64 ((rd_T41 l3 a5).f1), .int .i64 ((rd_T41 l3 a5).f2.f0), .slice A142_4 ((rd_T41 l3 a5).f2.f1).length c142_4, .int .u32 ((rd_T41 l3 a5).f2.f2), .int .i64 0, .int .i64 0, .slice none 0 0, .slice none 0 0, .int .i64 0]) ?_ 6 _ rfl; (with_reducible repeat (first | refine blk_drewN ?_ _ | refine blk_drew ?_ | refine blk_alloc ?_ _)); refine blk_put (cs := #[.int .u32 ((rd_T41 l3 a5).f0.f0), .int .i64 ((rd_T41 l3 a5).f0.f1), .int .i64 ((rd_T41 l3 a5).f1), .int .i64 ((rd_T41 l3 a5).f2.f0), .slice A142_4 ((rd_T41 l3 a5).f2.f1).length c142_4, .int .u32 0, .int .i64 0, .int .i64 0, .slice none 0 0, .slice none 0 0, .int .i64 0]) ?_ 5 _ rfl; (with_reducible repeat (first | refine blk_drewN ?_ _ | refine blk_drew ?_ | refine blk_alloc ?_ _)); refine blk_put (cs := #[.int .u32 ((rd_T41 l3 a5).f0.f0), .int .i64 ((rd_T41 l3 a5).f0.f1), .int .i64 ((rd_T41 l3 a5).f1), .int .i64 ((rd_T41 l3 a5).f2.f0), .slice none 0 0, .int .u32 0, .int .i64 0, .int .i64 0, .slice none 0 0, .slice none 0 0, .int .i64 0]) ?_ 4 _ rfl; (with_reducible repeat (first | refine blk_drewN ?_ _ | refine blk_drew ?_ | refine blk_alloc ?_ _)); refine blk_put (cs := #[.int .u32 ((rd_T41 l3 a5).f0.f0), .int .i64 ((rd_T41 l3 a5).f0.f1), .int .i64 ((rd_T41 l3 a5).f1), .int .i64 0, .slice none 0 0, .int .u32 0, .int .i64 0, .int .i64 0, .slice none 0 0, .slice none 0 0, .int .i64 0]) ?_ 3 _ rfl; (with_reducible repeat (first | refine blk_drewN ?_ _ | refine blk_drew ?_ | refine blk_alloc ?_ _)); refine blk_put (cs := #[.int .u32 ((rd_T41 l3 a5).f0.f0), .int .i64 ((rd_T41 l3 a5).f0.f1), .int .i64 0, .int .i64 0, .slice none 0 0, .int .u32 0, .int .i64 0, .int .i64 0, .slice none 0 0, .slice none 0 0, .int .i64 0]) ?_ 2 _ rfl; (with_reducible repeat (first | refine blk_drewN ?_ _ | refine blk_drew ?_ | refine blk_alloc ?_ _)); refine blk_put (cs := #[.int .u32 ((rd_T41 l3 a5).f0.f0), .int .i64 0, .int .i64 0, .int .i64 0, .slice none 0 0, .int .u32 0, .int .i64 0, .int .i64 0, .slice none 0 0, .slice none 0 0, .int .i64 0]) ?_ 1 _ rfl; (with_reducible repeat (first | refine blk_drewN ?_ _ | refine blk_drew ?_ | refine blk_alloc ?_ _)); refine blk_put (cs := #[.int .u32 0, .int .i64 0, .int .i64 0, .int .i64 0, .slice none 0 0, .int .u32 0, .int .i64 0, .int .i64 0, .slice none 0 0, .slice none 0 0, .int .i64 0]) ?_ 0 _ rfl; (with_reducible repeat (first | refine blk_drewN ?_ _ | refine blk_drew ?_ | refine blk_alloc ?_ _)); exact BK143.out) hb); have n1_ := Aside0.mk (below_step (by repeat (first | (with_reducible first | exact HB.out | apply below_alloc | apply pw_below_drewN | apply below_drew1 | refine below_set ?_ GE143.out) | exact HB.out)) hb); clear BK143; clear HB; have BK143 := n0_; have HB := n1_; clear n0_ n1_; (try clear hb); (try clear hb2); (try clear hk); (try clear hi)))
  go_ret
  exact ⟨by first | rfl | (simp [errW_none, errW_some] <;> rfl) | (simp [*, errW_none, errW_some] <;> rfl), by repeat (first | (with_reducible first | exact HB.out | apply below_alloc | apply pw_below_drewN | apply below_drew1 | refine below_set ?_ GE143.out) | exact HB.out)⟩
 rw [if_neg c21] at H
 have c21b0 : (a0 == 2) = false := beq_eq_false_iff_ne.mpr c21
 have c21b1 : (a0 != 2) = true := bne_iff_ne.mpr c21
 by_cases c26 : a0 = 3
 ·rw [if_pos c26] at H
  have c26b0 : (a0 == 3) = true := beq_iff_eq.mpr c26
  have c26b1 : (a0 != 3) = false := bne_eq_false_iff_eq.mpr c26
  clear c26
  replace H := Option.bind_eq_some_iff.mp H
  obtain ⟨t145, A270, H⟩ := H
  replace H : (some t145) = some r := H
  have A27 := Aside0.mk A270
  clear A270
  obtain rfl := Option.some.inj H
  have p142 : 0 ≤ (a5 : Int) := of_decide_eq_true (by first | (with_reducible assumption) | assumption)
  have q142 : a5 < (l3.length : Int) := of_decide_eq_true (by first | (with_reducible assumption) | assumption)
  obtain ⟨ad142, A142_4, c142_4, A142_8, c142_8, A142_9, c142_9, e142, hx142_0, hx142_1, hx142_2, hx142_3, hx142_4, hx142_5, hx142_6, hx142_7, hx142_8, hx142_9, hx142_10, hl142_4, hi142_4, hl142_8, hi142_8, hl142_9, hi142_9⟩ := at_T41 HR3.out a5 p142 q142
  cases e142
  have HR142_4 := Aside0.mk hi142_4
  have HC142_4 := Aside0.mk hl142_4
  clear hi142_4 hl142_4
  have HR142_8 := Aside0.mk hi142_8
  have HC142_8 := Aside0.mk hl142_8
  clear hi142_8 hl142_8
  have HR142_9 := Aside0.mk hi142_9
  have HC142_9 := Aside0.mk hl142_9
  clear hi142_9 hl142_9
  replace p142 := eq_true p142
  replace q142 := eq_true q142
  go_enter Try.func31, Try.ntmps31
  go_wp2_with (first | ((with_reducible refine gate_dst (N := 13) rfl ?_); refine box_event ?hg (N := 13) ?hd (cs := #[.int .u32 0, .int .i64 0, .int .i64 0, .int .i64 0, .slice none 0 0, .int .u32 0, .int .i64 0, .int .i64 0, .slice none 0 0, .slice none 0 0, .int .i64 0]) (t := 41) ?hr ?_; (case hd => rfl); (case hg => rfl); (case hr => first | (go_simp; done) | (go_simp; rfl) | (go_simp; simp [IntKind.wrap_u8, IntKind.wrap_u32]; done)); intro gb143 hg w28 hbox hb; have n0_ := Aside0.mk (below_step (by repeat (first | (with_reducible first | exact HB.out | apply below_alloc | apply pw_below_drewN | apply below_drew1) | exact HB.out)) hb); have n1_ := Aside0.mk (hbox); have n2_ := Aside0.mk ((by rw [hg]; exact (below_size (by repeat (first | (with_reducible first | exact HB.out | apply below_alloc | apply pw_below_drewN | apply below_drew1) | exact HB.out))) : w.heap.size ≤ gb143)); have n3_ := Aside0.mk ((by rw [hg]; exact (below_size (by repeat (first | (with_reducible first | exact HB.out | apply below_alloc | apply pw_below_drewN | apply below_drew1) | exact HB.out))) : w.heap.size ≤ gb143)); clear HB; have HB := n0_; have BK143 := n1_; have GW143 := n2_; have GE143 := n3_; clear n0_ n1_ n2_ n3_; clear hb hbox hg; have hcz29_0 : w28.cell? ⟨gb143, 0, none⟩ = some (.int .u32 0) := (blk_cell BK143.out 0).trans rfl; have hcz29_1 : w28.cell? ⟨gb143, 1, none⟩ = some (.int .i64 0) := (blk_cell BK143.out 1).trans rfl; have hcz29_2 : w28.cell? ⟨gb143, 2, none⟩ = some (.int .i64 0) := (blk_cell BK143.out 2).trans rfl; have hcz29_3 : w28.cell? ⟨gb143, 3, none⟩ = some (.int .i64 0) := (blk_cell BK143.out 3).trans rfl; have hcz29_4 : w28.cell? ⟨gb143, 4, none⟩ = some (.slice none 0 0) := (blk_cell BK143.out 4).trans rfl; have hcz29_5 : w28.cell? ⟨gb143, 5, none⟩ = some (.int .u32 0) := (blk_cell BK143.out 5).trans rfl; have hcz29_6 : w28.cell? ⟨gb143, 6, none⟩ = some (.int .i64 0) := (blk_cell BK143.out 6).trans rfl; have hcz29_7 : w28.cell? ⟨gb143, 7, none⟩ = some (.int .i64 0) := (blk_cell BK143.out 7).trans rfl; have hcz29_8 : w28.cell? ⟨gb143, 8, none⟩ = some (.slice none 0 0) := (blk_cell BK143.out 8).trans rfl; have hcz29_9 : w28.cell? ⟨gb143, 9, none⟩ = some (.slice none 0 0) := (blk_cell BK143.out 9).trans rfl; have hcz29_10 : w28.cell? ⟨gb143, 10, none⟩ = some (.int .i64 0) := (blk_cell BK143.out 10).trans rfl; have hfz29_0 := blk_frozen BK143.out 0; have hfz29_1 := blk_frozen BK143.out 1; have hfz29_2 := blk_frozen BK143.out 2; have hfz29_3 := blk_frozen BK143.out 3; have hfz29_4 := blk_frozen BK143.out 4; have hfz29_5 := blk_frozen BK143.out 5; have hfz29_6 := blk_frozen BK143.out 6; have hfz29_7 := blk_frozen BK143.out 7; have hfz29_8 := blk_frozen BK143.out 8; have hfz29_9 := blk_frozen BK143.out 9; have hfz29_10 := blk_frozen BK143.out 10) | ((with_reducible refine gate_callee (f := 42) rfl ?_); refine goesL_ (some 46) rfl rfl Try.func42 (by kernel_rfl) rfl #[.slice A142_4 ((rd_T41 l3 a5).f2.f1).length c142_4] rfl (by (try simp only [List.map_toArray, List.map_cons, List.map_nil]); first | done | rfl | (simp only [List.length_drop, List.length_take]; rfl)) ?_; (with_reducible refine (interregnumref05_Length.calls k _ _ ((rd_T41 l3 a5).f2.f1) t145 _ ?side1 ?side2 A27.out).mono ?_); (case side1 => exact Kd.C_below HR142_4.out (by repeat (first | (with_reducible first | exact HB.out | apply below_alloc | apply pw_below_drewN | apply below_drew1 | refine below_set ?_ GE143.out) | exact HB.out))); (case side2 => exact HC142_4.out); rintro e w' ⟨rfl, ⟨nd, rfl⟩⟩; refine ⟨_, rfl, ?_⟩))
  go_ret
  exact ⟨by first | rfl | (simp [errW_none, errW_some] <;> rfl) | (simp [*, errW_none, errW_some] <;> rfl), by repeat (first | (with_reducible first | exact HB.out | apply below_alloc | apply pw_below_drewN | apply below_drew1 | refine below_set ?_ GE143.out) | exact HB.out)⟩
 rw [if_neg c26] at H
 have c26b0 : (a0 == 3) = false := beq_eq_false_iff_ne.mpr c26
 have c26b1 : (a0 != 3) = true := bne_iff_ne.mpr c26
 by_cases c30 : a0 = 4
 ·rw [if_pos c30] at H
  have c30b0 : (a0 == 4) = true := beq_iff_eq.mpr c30
  have c30b1 : (a0 != 4) = false := bne_eq_false_iff_eq.mpr c30
  clear c30
  obtain rfl := Option.some.inj H
  have p142 : 0 ≤ (a5 : Int) := of_decide_eq_true (by first | (with_reducible assumption) | assumption)
  have q142 : a5 < (l3.length : Int) := of_decide_eq_true (by first | (with_reducible assumption) | assumption)
  obtain ⟨ad142, A142_4, c142_4, A142_8, c142_8, A142_9, c142_9, e142, hx142_0, hx142_1, hx142_2, hx142_3, hx142_4, hx142_5, hx142_6, hx142_7, hx142_8, hx142_9, hx142_10, hl142_4, hi142_4, hl142_8, hi142_8, hl142_9, hi142_9⟩ := at_T41 HR3.out a5 p142 q142
  cases e142
  have HR142_4 := Aside0.mk hi142_4
  have HC142_4 := Aside0.mk hl142_4
  clear hi142_4 hl142_4
  have HR142_8 := Aside0.mk hi142_8
  have HC142_8 := Aside0.mk hl142_8
  clear hi142_8 hl142_8
  have HR142_9 := Aside0.mk hi142_9
  have HC142_9 := Aside0.mk hl142_9
  clear hi142_9 hl142_9
  replace p142 := eq_true p142
  replace q142 := eq_true q142
  go_enter Try.func31, Try.ntmps31
  go_wp2_with (first | ((with_reducible refine gate_dst (N := 13) rfl ?_); refine box_event ?hg (N := 13) ?hd (cs := #[.int .u32 0, .int .i64 0, .int .i64 0, .int .i64 0, .slice none 0 0, .int .u32 0, .int .i64 0, .int .i64 0, .slice none 0 0, .slice none 0 0, .int .i64 0]) (t := 41) ?hr ?_; (case hd => rfl); (case hg => rfl); (case hr => first | (go_simp; done) | (go_simp; rfl) | (go_simp; simp [IntKind.wrap_u8, IntKind.wrap_u32]; done)); intro gb143 hg w31 hbox hb; have n0_ := Aside0.mk (below_step (by repeat (first | (with_reducible first | exact HB.out | apply below_alloc | apply pw_below_drewN | apply below_drew1) | exact HB.out)) hb); have n1_ := Aside0.mk (hbox); have n2_ := Aside0.mk ((by rw [hg]; exact (below_size (by repeat (first | (with_reducible first | exact HB.out | apply below_alloc | apply pw_below_drewN | apply below_drew1) | exact HB.out))) : w.heap.size ≤ gb143)); have n3_ := Aside0.mk ((by rw [hg]; exact (below_size (by repeat (first | (with_reducible first | exact HB.out | apply below_alloc | apply pw_below_drewN | apply below_drew1) | exact HB.out))) : w.heap.size ≤ gb143)); clear HB; have HB := n0_; have BK143 := n1_; have GW143 := n2_; have GE143 := n3_; clear n0_ n1_ n2_ n3_; clear hb hbox hg; have hcz32_0 : w31.cell? ⟨gb143, 0, none⟩ = some (.int .u32 0) := (blk_cell BK143.out 0).trans rfl; have hcz32_1 : w31.cell? ⟨gb143, 1, none⟩ = some (.int .i64 0) := (blk_cell BK143.out 1).trans rfl; have hcz32_2 : w31.cell? ⟨gb143, 2, none⟩ = some (.int .i64 0) := (blk_cell BK143.out 2).trans rfl; have hcz32_3 : w31.cell? ⟨gb143, 3, none⟩ = some (.int .i64 0) := (blk_cell BK143.out 3).trans rfl; have hcz32_4 : w31.cell? ⟨gb143, 4, none⟩ = some (.slice none 0 0) := (blk_cell BK143.out 4).trans rfl; have hcz32_5 : w31.cell? ⟨gb143, 5, none⟩ = some (.int .u32 0) := (blk_cell BK143.out 5).trans rfl; have hcz32_6 : w31.cell? ⟨gb143, 6, none⟩ = some (.int .i64 0) := (blk_cell BK143.out 6).trans rfl; have hcz32_7 : w31.cell? ⟨gb143, 7, none⟩ = some (.int .i64 0) := (blk_cell BK143.out 7).trans rfl; have hcz32_8 : w31.cell? ⟨gb143, 8, none⟩ = some (.slice none 0 0) := (blk_cell BK143.out 8).trans rfl; have hcz32_9 : w31.cell? ⟨gb143, 9, none⟩ = some (.slice none 0 0) := (blk_cell BK143.out 9).trans rfl; have hcz32_10 : w31.cell? ⟨gb143, 10, none⟩ = some (.int .i64 0) := (blk_cell BK143.out 10).trans rfl; have hfz32_0 := blk_frozen BK143.out 0; have hfz32_1 := blk_frozen BK143.out 1; have hfz32_2 := blk_frozen BK143.out 2; have hfz32_3 := blk_frozen BK143.out 3; have hfz32_4 := blk_frozen BK143.out 4; have hfz32_5 := blk_frozen BK143.out 5; have hfz32_6 := blk_frozen BK143.out 6; have hfz32_7 := blk_frozen BK143.out 7; have hfz32_8 := blk_frozen BK143.out 8; have hfz32_9 := blk_frozen BK143.out 9; have hfz32_10 := blk_frozen BK143.out 10))
  go_ret
  exact ⟨by first | rfl | (simp [errW_none, errW_some] <;> rfl) | (simp [*, errW_none, errW_some] <;> rfl), by repeat (first | (with_reducible first | exact HB.out | apply below_alloc | apply pw_below_drewN | apply below_drew1 | refine below_set ?_ GE143.out) | exact HB.out)⟩
 rw [if_neg c30] at H
 have c30b0 : (a0 == 4) = false := beq_eq_false_iff_ne.mpr c30
 have c30b1 : (a0 != 4) = true := bne_iff_ne.mpr c30
 by_cases c33 : a0 = 5
 rotate_left
 ·rw [if_neg c33] at H
  have c33b0 : (a0 == 5) = false := beq_eq_false_iff_ne.mpr c33
  have c33b1 : (a0 != 5) = true := bne_iff_ne.mpr c33
  by_cases c62 : a0 = 6
  rotate_left
  ·rw [if_neg c62] at H
   have c62b0 : (a0 == 6) = false := beq_eq_false_iff_ne.mpr c62
   have c62b1 : (a0 != 6) = true := bne_iff_ne.mpr c62
   by_cases c71 : a0 = 7
   rotate_left
   ·rw [if_neg c71] at H
    have c71b0 : (a0 == 7) = false := beq_eq_false_iff_ne.mpr c71
    have c71b1 : (a0 != 7) = true := bne_iff_ne.mpr c71
    obtain rfl := Option.some.inj H
    have p142 : 0 ≤ (a5 : Int) := of_decide_eq_true (by first | (with_reducible assumption) | assumption)
    have q142 : a5 < (l3.length : Int) := of_decide_eq_true (by first | (with_reducible assumption) | assumption)
    obtain ⟨ad142, A142_4, c142_4, A142_8, c142_8, A142_9, c142_9, e142, hx142_0, hx142_1, hx142_2, hx142_3, hx142_4, hx142_5, hx142_6, hx142_7, hx142_8, hx142_9, hx142_10, hl142_4, hi142_4, hl142_8, hi142_8, hl142_9, hi142_9⟩ := at_T41 HR3.out a5 p142 q142
    cases e142
    have HR142_4 := Aside0.mk hi142_4
    have HC142_4 := Aside0.mk hl142_4
    clear hi142_4 hl142_4
    have HR142_8 := Aside0.mk hi142_8
    have HC142_8 := Aside0.mk hl142_8
    clear hi142_8 hl142_8
    have HR142_9 := Aside0.mk hi142_9
    have HC142_9 := Aside0.mk hl142_9
    clear hi142_9 hl142_9
    replace p142 := eq_true p142
    replace q142 := eq_true q142
    go_enter Try.func31, Try.ntmps31
    go_wp2_with (first | ((with_reducible refine gate_dst (N := 13) rfl ?_); refine box_event ?hg (N := 13) ?hd (cs := #[.int .u32 0, .int .i64 0, .int .i64 0, .int .i64 0, .slice none 0 0, .int .u32 0, .int .i64 0, .int .i64 0, .slice none 0 0, .slice none 0 0, .int .i64 0]) (t := 41) ?hr ?_; (case hd => rfl); (case hg => rfl); (case hr => first | (go_simp; done) | (go_simp; rfl) | (go_simp; simp [IntKind.wrap_u8, IntKind.wrap_u32]; done)); intro gb143 hg w76 hbox hb; have n0_ := Aside0.mk (below_step (by repeat (first | (with_reducible first | exact HB.out | apply below_alloc | apply pw_below_drewN | apply below_drew1) | exact HB.out)) hb); have n1_ := Aside0.mk (hbox); have n2_ := Aside0.mk ((by rw [hg]; exact (below_size (by repeat (first | (with_reducible first | exact HB.out | apply below_alloc | apply pw_below_drewN | apply below_drew1) | exact HB.out))) : w.heap.size ≤ gb143)); have n3_ := Aside0.mk ((by rw [hg]; exact (below_size (by repeat (first | (with_reducible first | exact HB.out | apply below_alloc | apply pw_below_drewN | apply below_drew1) | exact HB.out))) : w.heap.size ≤ gb143)); clear HB; have HB := n0_; have BK143 := n1_; have GW143 := n2_; have GE143 := n3_; clear n0_ n1_ n2_ n3_; clear hb hbox hg; have hcz77_0 : w76.cell? ⟨gb143, 0, none⟩ = some (.int .u32 0) := (blk_cell BK143.out 0).trans rfl; have hcz77_1 : w76.cell? ⟨gb143, 1, none⟩ = some (.int .i64 0) := (blk_cell BK143.out 1).trans rfl; have hcz77_2 : w76.cell? ⟨gb143, 2, none⟩ = some (.int .i64 0) := (blk_cell BK143.out 2).trans rfl; have hcz77_3 : w76.cell? ⟨gb143, 3, none⟩ = some (.int .i64 0) := (blk_cell BK143.out 3).trans rfl; have hcz77_4 : w76.cell? ⟨gb143, 4, none⟩ = some (.slice none 0 0) := (blk_cell BK143.out 4).trans rfl; have hcz77_5 : w76.cell? ⟨gb143, 5, none⟩ = some (.int .u32 0) := (blk_cell BK143.out 5).trans rfl; have hcz77_6 : w76.cell? ⟨gb143, 6, none⟩ = some (.int .i64 0) := (blk_cell BK143.out 6).trans rfl; have hcz77_7 : w76.cell? ⟨gb143, 7, none⟩ = some (.int .i64 0) := (blk_cell BK143.out 7).trans rfl; have hcz77_8 : w76.cell? ⟨gb143, 8, none⟩ = some (.slice none 0 0) := (blk_cell BK143.out 8).trans rfl; have hcz77_9 : w76.cell? ⟨gb143, 9, none⟩ = some (.slice none 0 0) := (blk_cell BK143.out 9).trans rfl; have hcz77_10 : w76.cell? ⟨gb143, 10, none⟩ = some (.int .i64 0) := (blk_cell BK143.out 10).trans rfl; have hfz77_0 := blk_frozen BK143.out 0; have hfz77_1 := blk_frozen BK143.out 1; have hfz77_2 := blk_frozen BK143.out 2; have hfz77_3 := blk_frozen BK143.out 3; have hfz77_4 := blk_frozen BK143.out 4; have hfz77_5 := blk_frozen BK143.out 5; have hfz77_6 := blk_frozen BK143.out 6; have hfz77_7 := blk_frozen BK143.out 7; have hfz77_8 := blk_frozen BK143.out 8; have hfz77_9 := blk_frozen BK143.out 9; have hfz77_10 := blk_frozen BK143.out 10))
    go_ret
    exact ⟨by first | rfl | (simp [errW_none, errW_some] <;> rfl) | (simp [*, errW_none, errW_some] <;> rfl), by repeat (first | (with_reducible first | exact HB.out | apply below_alloc | apply pw_below_drewN | apply below_drew1 | refine below_set ?_ GE143.out) | exact HB.out)⟩
   rw [if_pos c71] at H
   have c71b0 : (a0 == 7) = true := beq_iff_eq.mpr c71
   have c71b1 : (a0 != 7) = false := bne_eq_false_iff_eq.mpr c71
   clear c71
   replace H := Option.bind_eq_some_iff.mp H
   obtain ⟨⟨t158, t159, t160⟩, A720, H⟩ := H
   replace H : (some (wrap64 (t160))) = some r := H
   have A72 := Aside0.mk A720
   clear A720
   obtain rfl := Option.some.inj H
   have p142 : 0 ≤ (a5 : Int) := of_decide_eq_true (by first | (with_reducible assumption) | assumption)
   have q142 : a5 < (l3.length : Int) := of_decide_eq_true (by first | (with_reducible assumption) | assumption)
   obtain ⟨ad142, A142_4, c142_4, A142_8, c142_8, A142_9, c142_9, e142, hx142_0, hx142_1, hx142_2, hx142_3, hx142_4, hx142_5, hx142_6, hx142_7, hx142_8, hx142_9, hx142_10, hl142_4, hi142_4, hl142_8, hi142_8, hl142_9, hi142_9⟩ := at_T41 HR3.out a5 p142 q142
   cases e142
   have HR142_4 := Aside0.mk hi142_4
   have HC142_4 := Aside0.mk hl142_4
   clear hi142_4 hl142_4
   have HR142_8 := Aside0.mk hi142_8
   have HC142_8 := Aside0.mk hl142_8
   clear hi142_8 hl142_8
   have HR142_9 := Aside0.mk hi142_9
   have HC142_9 := Aside0.mk hl142_9
   clear hi142_9 hl142_9
   replace p142 := eq_true p142
   replace q142 := eq_true q142
   go_enter Try.func31, Try.ntmps31
   go_wp2_with (first | ((with_reducible refine gate_dst (N := 13) rfl ?_); refine box_event ?hg (N := 13) ?hd (cs := #[.int .u32 0, .int .i64 0, .int .i64 0, .int .i64 0, .slice none 0 0, .int .u32 0, .int .i64 0, .int .i64 0, .slice none 0 0, .slice none 0 0, .int .i64 0]) (t := 41) ?hr ?_; (case hd => rfl); (case hg => rfl); (case hr => first | (go_simp; done) | (go_simp; rfl) | (go_simp; simp [IntKind.wrap_u8, IntKind.wrap_u32]; done)); intro gb143 hg w73 hbox hb; have n0_ := Aside0.mk (below_step (by repeat (first | (with_reducible first | exact HB.out | apply below_alloc | apply pw_below_drewN | apply below_drew1) | exact HB.out)) hb); have n1_ := Aside0.mk (hbox); have n2_ := Aside0.mk ((by rw [hg]; exact (below_size (by repeat (first | (with_reducible first | exact HB.out | apply below_alloc | apply pw_below_drewN | apply below_drew1) | exact HB.out))) : w.heap.size ≤ gb143)); have n3_ := Aside0.mk ((by rw [hg]; exact (below_size (by repeat (first | (with_reducible first | exact HB.out | apply below_alloc | apply pw_below_drewN | apply below_drew1) | exact HB.out))) : w.heap.size ≤ gb143)); clear HB; have HB := n0_; have BK143 := n1_; have GW143 := n2_; have GE143 := n3_; clear n0_ n1_ n2_ n3_; clear hb hbox hg; have hcz74_0 : w73.cell? ⟨gb143, 0, none⟩ = some (.int .u32 0) := (blk_cell BK143.out 0).trans rfl; have hcz74_1 : w73.cell? ⟨gb143, 1, none⟩ = some (.int .i64 0) := (blk_cell BK143.out 1).trans rfl; have hcz74_2 : w73.cell? ⟨gb143, 2, none⟩ = some (.int .i64 0) := (blk_cell BK143.out 2).trans rfl; have hcz74_3 : w73.cell? ⟨gb143, 3, none⟩ = some (.int .i64 0) := (blk_cell BK143.out 3).trans rfl; have hcz74_4 : w73.cell? ⟨gb143, 4, none⟩ = some (.slice none 0 0) := (blk_cell BK143.out 4).trans rfl; have hcz74_5 : w73.cell? ⟨gb143, 5, none⟩ = some (.int .u32 0) := (blk_cell BK143.out 5).trans rfl; have hcz74_6 : w73.cell? ⟨gb143, 6, none⟩ = some (.int .i64 0) := (blk_cell BK143.out 6).trans rfl; have hcz74_7 : w73.cell? ⟨gb143, 7, none⟩ = some (.int .i64 0) := (blk_cell BK143.out 7).trans rfl; have hcz74_8 : w73.cell? ⟨gb143, 8, none⟩ = some (.slice none 0 0) := (blk_cell BK143.out 8).trans rfl; have hcz74_9 : w73.cell? ⟨gb143, 9, none⟩ = some (.slice none 0 0) := (blk_cell BK143.out 9).trans rfl; have hcz74_10 : w73.cell? ⟨gb143, 10, none⟩ = some (.int .i64 0) := (blk_cell BK143.out 10).trans rfl; have hfz74_0 := blk_frozen BK143.out 0; have hfz74_1 := blk_frozen BK143.out 1; have hfz74_2 := blk_frozen BK143.out 2; have hfz74_3 := blk_frozen BK143.out 3; have hfz74_4 := blk_frozen BK143.out 4; have hfz74_5 := blk_frozen BK143.out 5; have hfz74_6 := blk_frozen BK143.out 6; have hfz74_7 := blk_frozen BK143.out 7; have hfz74_8 := blk_frozen BK143.out 8; have hfz74_9 := blk_frozen BK143.out 9; have hfz74_10 := blk_frozen BK143.out 10) | ((with_reducible refine gate_callee (f := 45) rfl ?_); refine goesL_ (some 113) rfl rfl Try.func45 (by kernel_rfl) rfl #[.slice A2 l2.length c2, .int .i64 ((rd_T41 l3 a5).f1)] rfl (by (try simp only [List.map_toArray, List.map_cons, List.map_nil]); first | done | rfl | (simp only [List.length_drop, List.length_take]; rfl)) ?_; (with_reducible refine (interregnumref11_info.calls k _ _ l2 ((rd_T41 l3 a5).f1) t158 t159 t160 _ ?side1 ?side2 A72.out).mono ?_); (case side1 => exact Kd.C_below HR2.out (by repeat (first | (with_reducible first | exact HB.out | apply below_alloc | apply pw_below_drewN | apply below_drew1 | refine below_set ?_ GE143.out) | exact HB.out))); (case side2 => exact HC2.out); rintro e w75 ⟨rfl, hb⟩; refine ⟨_, rfl, ?_⟩; have n0_ := Aside0.mk (blk_below (g := gb143) (o := .cells #[.int .u32 ((rd_T41 l3 a5).f0.f0), .int .i64 ((rd_T41 l3 a5).f0.f1), .int .i64 ((rd_T41 l3 a5).f1), .int .i64 ((rd_T41 l3 a5).f2.f0), .slice A142_4 ((rd_T41 l3 a5).f2.f1).length c142_4, .int .u32 ((rd_T41 l3 a5).f2.f2), .int .i64 ((rd_T41 l3 a5).f2.f3), .int .i64 ((rd_T41 l3 a5).f2.f4), .slice A142_8 ((rd_T41 l3 a5).f2.f5).length c142_8, .slice A142_9 ((rd_T41 l3 a5).f2.f6).length c142_9, .int .i64 ((rd_T41 l3 a5).f3)] 41 (0, 0)) (by (with_reducible repeat (first | refine blk_drewN ?_ _ | refine blk_drew ?_ | refine blk_alloc ?_ _)); refine blk_put (cs := #[.int .u32 ((rd_T41 l3 a5).f0.f0), .int .i64 ((rd_T41 l3 a5).f0.f1), .int .i64 ((rd_T41 l3 a5).f1), .int .i64 ((rd_T41 l3 a5).f2.f0), .slice A142_4 ((rd_T41 l3 a5).f2.f1).length c142_4, .int .u32 ((rd_T41 l3 a5).f2.f2), .int .i64 ((rd_T41 l3 a5).f2.f3), .int .i64 ((rd_T41 l3 a5).f2.f4), .slice A142_8 ((rd_T41 l3 a5).f2.f5).length c142_8, .slice A142_9 ((rd_T41 l3 a5).f2.f6).length c142_9, .int .i64 0]) ?_ 10 _ rfl; (with_reducible repeat (first | refine blk_drewN ?_ _ | refine blk_drew ?_ | refine blk_alloc ?_ _)); refine blk_put (cs := #[.int .u32 ((rd_T41 l3 a5).f0.f0), .int .i64 ((rd_T41 l3 a5).f0.f1), .int .i64 ((rd_T41 l3 a5).f1), .int .i64 ((rd_T41 l3 a5).f2.f0), .slice A142_4 ((rd_T41 l3 a5).f2.f1).length c142_4, .int .u32 ((rd_T41 l3 a5).f2.f2), .int .i64 ((rd_T41 l3 a5).f2.f3), .int .i64 ((rd_T41 l3 a5).f2.f4), .slice A142_8 ((rd_T41 l3 a5).f2.f5).length c142_8, .slice none 0 0, .int .i64 0]) ?_ 9 _ rfl; (with_reducible repeat (first | refine blk_drewN ?_ _ | refine blk_drew ?_ | refine blk_alloc ?_ _)); refine blk_put (cs := #[.int .u32 ((rd_T41 l3 a5).f0.f0), .int .i64 ((rd_T41 l3 a5).f0.f1), .int .i64 ((rd_T41 l3 a5).f1), .int .i64 ((rd_T41 l3 a5).f2.f0), .slice A142_4 ((rd_T41 l3 a5).f2.f1).length c142_4, .int .u32 ((rd_T41 l3 a5).f2.f2), .int .i64 ((rd_T41 l3 a5).f2.f3), .int .i64 ((rd_T41 l3 a5).f2.f4), .slice none 0 0, .slice none 0 0, .int .i64 0]) ?_ 8 _ rfl; (with_reducible repeat (first | refine blk_drewN ?_ _ | refine blk_drew ?_ | refine blk_alloc ?_ _)); refine blk_put (cs := #[.int .u32 ((rd_T41 l3 a5).f0.f0), .int .i64 ((rd_T41 l3 a5).f0.f1), .int .i64 ((rd_T41 l3 a5).f1), .int .i64 ((rd_T41 l3 a5).f2.f0), .slice A142_4 ((rd_T41 l3 a5).f2.f1).length c142_4, .int .u32 ((rd_T41 l3 a5).f2.f2), .int .i64 ((rd_T41 l3 a5).f2.f3), .int .i64 0, .slice none 0 0, .slice none 0 0, .int .i64 0]) ?_ 7 _ rfl; (with_reducible repeat (first | refine blk_drewN ?_ _ | refine blk_drew ?_ | refine blk_alloc ?_ _)); refine blk_put (cs := #[.int .u32 ((rd_T41 l3 a5).f0.f0), .int .i64 ((rd_T41 l3 a5).f0.f1), .int .i64 ((rd_T41 l3 a5).f1), .int .i64 ((rd_T41 l3 a5).f2.f0), .slice A142_4 ((rd_T41 l3 a5).f2.f1).length c142_4, .int .u32 ((rd_T41 l3 a5).f2.f2), .int .i64 0, .int .i64 0, .slice none 0 0, .slice none 0 0, .int .i64 0]) ?_ 6 _ rfl; (with_reducible repeat (first | refine blk_drewN ?_ _ | refine blk_drew ?_ | refine blk_alloc ?_ _)); refine blk_put (cs := #[.int .u32 ((rd_T41 l3 a5).f0.f0), .int .i64 ((rd_T41 l3 a5).f0.f1), .int .i64 ((rd_T41 l3 a5).f1), .int .i64 ((rd_T41 l3 a5).f2.f0), .slice A142_4 ((rd_T41 l3 a5).f2.f1).length c142_4, .int .u32 0, .int .i64 0, .int .i64 0, .slice none 0 0, .slice none 0 0, .int .i64 0]) ?_ 5 _ rfl; (with_reducible repeat (first | refine blk_drewN ?_ _ | refine blk_drew ?_ | refine blk_alloc ?_ _)); refine blk_put (cs := #[.int .u32 ((rd_T41 l3 a5).f0.f0), .int .i64 ((rd_T41 l3 a5).f0.f1), .int .i64 ((rd_T41 l3 a5).f1), .int .i64 ((rd_T41 l3 a5).f2.f0), .slice none 0 0, .int .u32 0, .int .i64 0, .int .i64 0, .slice none 0 0, .slice none 0 0, .int .i64 0]) ?_ 4 _ rfl; (with_reducible repeat (first | refine blk_drewN ?_ _ | refine blk_drew ?_ | refine blk_alloc ?_ _)); refine blk_put (cs := #[.int .u32 ((rd_T41 l3 a5).f0.f0), .int .i64 ((rd_T41 l3 a5).f0.f1), .int .i64 ((rd_T41 l3 a5).f1), .int .i64 0, .slice none 0 0, .int .u32 0, .int .i64 0, .int .i64 0, .slice none 0 0, .slice none 0 0, .int .i64 0]) ?_ 3 _ rfl; (with_reducible repeat (first | refine blk_drewN ?_ _ | refine blk_drew ?_ | refine blk_alloc ?_ _)); refine blk_put (cs := #[.int .u32 ((rd_T41 l3 a5).f0.f0), .int .i64 ((rd_T41 l3 a5).f0.f1), .int .i64 0, .int .i64 0, .slice none 0 0, .int .u32 0, .int .i64 0, .int .i64 0, .slice none 0 0, .slice none 0 0, .int .i64 0]) ?_ 2 _ rfl; (with_reducible repeat (first | refine blk_drewN ?_ _ | refine blk_drew ?_ | refine blk_alloc ?_ _)); refine blk_put (cs := #[.int .u32 ((rd_T41 l3 a5).f0.f0), .int .i64 0, .int .i64 0, .int .i64 0, .slice none 0 0, .int .u32 0, .int .i64 0, .int .i64 0, .slice none 0 0, .slice none 0 0, .int .i64 0]) ?_ 1 _ rfl; (with_reducible repeat (first | refine blk_drewN ?_ _ | refine blk_drew ?_ | refine blk_alloc ?_ _)); refine blk_put (cs := #[.int .u32 0, .int .i64 0, .int .i64 0, .int .i64 0, .slice none 0 0, .int .u32 0, .int .i64 0, .int .i64 0, .slice none 0 0, .slice none 0 0, .int .i64 0]) ?_ 0 _ rfl; (with_reducible repeat (first | refine blk_drewN ?_ _ | refine blk_drew ?_ | refine blk_alloc ?_ _)); exact BK143.out) hb); have n1_ := Aside0.mk (below_step (by repeat (first | (with_reducible first | exact HB.out | apply below_alloc | apply pw_below_drewN | apply below_drew1 | refine below_set ?_ GE143.out) | exact HB.out)) hb); clear BK143; clear HB; have BK143 := n0_; have HB := n1_; clear n0_ n1_; (try clear hb); (try clear hb2); (try clear hk); (try clear hi)))
   go_ret
   exact ⟨by first | rfl | (simp [errW_none, errW_some] <;> rfl) | (simp [*, errW_none, errW_some] <;> rfl), by repeat (first | (with_reducible first | exact HB.out | apply below_alloc | apply pw_below_drewN | apply below_drew1 | refine below_set ?_ GE143.out) | exact HB.out)⟩
  rw [if_pos c62] at H
  have c62b0 : (a0 == 6) = true := beq_iff_eq.mpr c62
  have c62b1 : (a0 != 6) = false := bne_eq_false_iff_eq.mpr c62
  clear c62
  replace H := Option.bind_eq_some_iff.mp H
  obtain ⟨⟨t155, t156, t157⟩, A630, H⟩ := H
  replace H : (if t156 = a1 then (some 1) else (some 0)) = some r := H
  have A63 := Aside0.mk A630
  clear A630
  by_cases c64 : t156 = a1
  rotate_left
  ·rw [if_neg c64] at H
   have c64b0 : (t156 == a1) = false := beq_eq_false_iff_ne.mpr c64
   have c64b1 : (t156 != a1) = true := bne_iff_ne.mpr c64
   obtain rfl := Option.some.inj H
   have p142 : 0 ≤ (a5 : Int) := of_decide_eq_true (by first | (with_reducible assumption) | assumption)
   have q142 : a5 < (l3.length : Int) := of_decide_eq_true (by first | (with_reducible assumption) | assumption)
   obtain ⟨ad142, A142_4, c142_4, A142_8, c142_8, A142_9, c142_9, e142, hx142_0, hx142_1, hx142_2, hx142_3, hx142_4, hx142_5, hx142_6, hx142_7, hx142_8, hx142_9, hx142_10, hl142_4, hi142_4, hl142_8, hi142_8, hl142_9, hi142_9⟩ := at_T41 HR3.out a5 p142 q142
   cases e142
   have HR142_4 := Aside0.mk hi142_4
   have HC142_4 := Aside0.mk hl142_4
   clear hi142_4 hl142_4
   have HR142_8 := Aside0.mk hi142_8
   have HC142_8 := Aside0.mk hl142_8
   clear hi142_8 hl142_8
   have HR142_9 := Aside0.mk hi142_9
   have HC142_9 := Aside0.mk hl142_9
   clear hi142_9 hl142_9
   replace p142 := eq_true p142
   replace q142 := eq_true q142
   go_enter Try.func31, Try.ntmps31
   go_wp2_with (first | ((with_reducible refine gate_dst (N := 13) rfl ?_); refine box_event ?hg (N := 13) ?hd (cs := #[.int .u32 0, .int .i64 0, .int .i64 0, .int .i64 0, .slice none 0 0, .int .u32 0, .int .i64 0, .int .i64 0, .slice none 0 0, .slice none 0 0, .int .i64 0]) (t := 41) ?hr ?_; (case hd => rfl); (case hg => rfl); (case hr => first | (go_simp; done) | (go_simp; rfl) | (go_simp; simp [IntKind.wrap_u8, IntKind.wrap_u32]; done)); intro gb143 hg w68 hbox hb; have n0_ := Aside0.mk (below_step (by repeat (first | (with_reducible first | exact HB.out | apply below_alloc | apply pw_below_drewN | apply below_drew1) | exact HB.out)) hb); have n1_ := Aside0.mk (hbox); have n2_ := Aside0.mk ((by rw [hg]; exact (below_size (by repeat (first | (with_reducible first | exact HB.out | apply below_alloc | apply pw_below_drewN | apply below_drew1) | exact HB.out))) : w.heap.size ≤ gb143)); have n3_ := Aside0.mk ((by rw [hg]; exact (below_size (by repeat (first | (with_reducible first | exact HB.out | apply below_alloc | apply pw_below_drewN | apply below_drew1) | exact HB.out))) : w.heap.size ≤ gb143)); clear HB; have HB := n0_; have BK143 := n1_; have GW143 := n2_; have GE143 := n3_; clear n0_ n1_ n2_ n3_; clear hb hbox hg; have hcz69_0 : w68.cell? ⟨gb143, 0, none⟩ = some (.int .u32 0) := (blk_cell BK143.out 0).trans rfl; have hcz69_1 : w68.cell? ⟨gb143, 1, none⟩ = some (.int .i64 0) := (blk_cell BK143.out 1).trans rfl; have hcz69_2 : w68.cell? ⟨gb143, 2, none⟩ = some (.int .i64 0) := (blk_cell BK143.out 2).trans rfl; have hcz69_3 : w68.cell? ⟨gb143, 3, none⟩ = some (.int .i64 0) := (blk_cell BK143.out 3).trans rfl; have hcz69_4 : w68.cell? ⟨gb143, 4, none⟩ = some (.slice none 0 0) := (blk_cell BK143.out 4).trans rfl; have hcz69_5 : w68.cell? ⟨gb143, 5, none⟩ = some (.int .u32 0) := (blk_cell BK143.out 5).trans rfl; have hcz69_6 : w68.cell? ⟨gb143, 6, none⟩ = some (.int .i64 0) := (blk_cell BK143.out 6).trans rfl; have hcz69_7 : w68.cell? ⟨gb143, 7, none⟩ = some (.int .i64 0) := (blk_cell BK143.out 7).trans rfl; have hcz69_8 : w68.cell? ⟨gb143, 8, none⟩ = some (.slice none 0 0) := (blk_cell BK143.out 8).trans rfl; have hcz69_9 : w68.cell? ⟨gb143, 9, none⟩ = some (.slice none 0 0) := (blk_cell BK143.out 9).trans rfl; have hcz69_10 : w68.cell? ⟨gb143, 10, none⟩ = some (.int .i64 0) := (blk_cell BK143.out 10).trans rfl; have hfz69_0 := blk_frozen BK143.out 0; have hfz69_1 := blk_frozen BK143.out 1; have hfz69_2 := blk_frozen BK143.out 2; have hfz69_3 := blk_frozen BK143.out 3; have hfz69_4 := blk_frozen BK143.out 4; have hfz69_5 := blk_frozen BK143.out 5; have hfz69_6 := blk_frozen BK143.out 6; have hfz69_7 := blk_frozen BK143.out 7; have hfz69_8 := blk_frozen BK143.out 8; have hfz69_9 := blk_frozen BK143.out 9; have hfz69_10 := blk_frozen BK143.out 10) | ((with_reducible refine gate_callee (f := 45) rfl ?_); refine goesL_ (some 104) rfl rfl Try.func45 (by kernel_rfl) rfl #[.slice A2 l2.length c2, .int .i64 ((rd_T41 l3 a5).f1)] rfl (by (try simp only [List.map_toArray, List.map_cons, List.map_nil]); first | done | rfl | (simp only [List.length_drop, List.length_take]; rfl)) ?_; (with_reducible refine (interregnumref11_info.calls k _ _ l2 ((rd_T41 l3 a5).f1) t155 t156 t157 _ ?side1 ?side2 A63.out).mono ?_); (case side1 => exact Kd.C_below HR2.out (by repeat (first | (with_reducible first | exact HB.out | apply below_alloc | apply pw_below_drewN | apply below_drew1 | refine below_set ?_ GE143.out) | exact HB.out))); (case side2 => exact HC2.out); rintro e w70 ⟨rfl, hb⟩; refine ⟨_, rfl, ?_⟩; have n0_ := Aside0.mk (blk_below (g := gb143) (o := .cells #[.int .u32 ((rd_T41 l3 a5).f0.f0), .int .i64 ((rd_T41 l3 a5).f0.f1), .int .i64 ((rd_T41 l3 a5).f1), .int .i64 ((rd_T41 l3 a5).f2.f0), .slice A142_4 ((rd_T41 l3 a5).f2.f1).length c142_4, .int .u32 ((rd_T41 l3 a5).f2.f2), .int .i64 ((rd_T41 l3 a5).f2.f3), .int .i64 ((rd_T41 l3 a5).f2.f4), .slice A142_8 ((rd_T41 l3 a5).f2.f5).length c142_8, .slice A142_9 ((rd_T41 l3 a5).f2.f6).length c142_9, .int .i64 ((rd_T41 l3 a5).f3)] 41 (0, 0)) (by (with_reducible repeat (first | refine blk_drewN ?_ _ | refine blk_drew ?_ | refine blk_alloc ?_ _)); refine blk_put (cs := #[.int .u32 ((rd_T41 l3 a5).f0.f0), .int .i64 ((rd_T41 l3 a5).f0.f1), .int .i64 ((rd_T41 l3 a5).f1), .int .i64 ((rd_T41 l3 a5).f2.f0), .slice A142_4 ((rd_T41 l3 a5).f2.f1).length c142_4, .int .u32 ((rd_T41 l3 a5).f2.f2), .int .i64 ((rd_T41 l3 a5).f2.f3), .int .i64 ((rd_T41 l3 a5).f2.f4), .slice A142_8 ((rd_T41 l3 a5).f2.f5).length c142_8, .slice A142_9 ((rd_T41 l3 a5).f2.f6).length c142_9, .int .i64 0]) ?_ 10 _ rfl; (with_reducible repeat (first | refine blk_drewN ?_ _ | refine blk_drew ?_ | refine blk_alloc ?_ _)); refine blk_put (cs := #[.int .u32 ((rd_T41 l3 a5).f0.f0), .int .i64 ((rd_T41 l3 a5).f0.f1), .int .i64 ((rd_T41 l3 a5).f1), .int .i64 ((rd_T41 l3 a5).f2.f0), .slice A142_4 ((rd_T41 l3 a5).f2.f1).length c142_4, .int .u32 ((rd_T41 l3 a5).f2.f2), .int .i64 ((rd_T41 l3 a5).f2.f3), .int .i64 ((rd_T41 l3 a5).f2.f4), .slice A142_8 ((rd_T41 l3 a5).f2.f5).length c142_8, .slice none 0 0, .int .i64 0]) ?_ 9 _ rfl; (with_reducible repeat (first | refine blk_drewN ?_ _ | refine blk_drew ?_ | refine blk_alloc ?_ _)); refine blk_put (cs := #[.int .u32 ((rd_T41 l3 a5).f0.f0), .int .i64 ((rd_T41 l3 a5).f0.f1), .int .i64 ((rd_T41 l3 a5).f1), .int .i64 ((rd_T41 l3 a5).f2.f0), .slice A142_4 ((rd_T41 l3 a5).f2.f1).length c142_4, .int .u32 ((rd_T41 l3 a5).f2.f2), .int .i64 ((rd_T41 l3 a5).f2.f3), .int .i64 ((rd_T41 l3 a5).f2.f4), .slice none 0 0, .slice none 0 0, .int .i64 0]) ?_ 8 _ rfl; (with_reducible repeat (first | refine blk_drewN ?_ _ | refine blk_drew ?_ | refine blk_alloc ?_ _)); refine blk_put (cs := #[.int .u32 ((rd_T41 l3 a5).f0.f0), .int .i64 ((rd_T41 l3 a5).f0.f1), .int .i64 ((rd_T41 l3 a5).f1), .int .i64 ((rd_T41 l3 a5).f2.f0), .slice A142_4 ((rd_T41 l3 a5).f2.f1).length c142_4, .int .u32 ((rd_T41 l3 a5).f2.f2), .int .i64 ((rd_T41 l3 a5).f2.f3), .int .i64 0, .slice none 0 0, .slice none 0 0, .int .i64 0]) ?_ 7 _ rfl; (with_reducible repeat (first | refine blk_drewN ?_ _ | refine blk_drew ?_ | refine blk_alloc ?_ _)); refine blk_put (cs := #[.int .u32 ((rd_T41 l3 a5).f0.f0), .int .i64 ((rd_T41 l3 a5).f0.f1), .int .i64 ((rd_T41 l3 a5).f1), .int .i64 ((rd_T41 l3 a5).f2.f0), .slice A142_4 ((rd_T41 l3 a5).f2.f1).length c142_4, .int .u32 ((rd_T41 l3 a5).f2.f2), .int .i64 0, .int .i64 0, .slice none 0 0, .slice none 0 0, .int .i64 0]) ?_ 6 _ rfl; (with_reducible repeat (first | refine blk_drewN ?_ _ | refine blk_drew ?_ | refine blk_alloc ?_ _)); refine blk_put (cs := #[.int .u32 ((rd_T41 l3 a5).f0.f0), .int .i64 ((rd_T41 l3 a5).f0.f1), .int .i64 ((rd_T41 l3 a5).f1), .int .i64 ((rd_T41 l3 a5).f2.f0), .slice A142_4 ((rd_T41 l3 a5).f2.f1).length c142_4, .int .u32 0, .int .i64 0, .int .i64 0, .slice none 0 0, .slice none 0 0, .int .i64 0]) ?_ 5 _ rfl; (with_reducible repeat (first | refine blk_drewN ?_ _ | refine blk_drew ?_ | refine blk_alloc ?_ _)); refine blk_put (cs := #[.int .u32 ((rd_T41 l3 a5).f0.f0), .int .i64 ((rd_T41 l3 a5).f0.f1), .int .i64 ((rd_T41 l3 a5).f1), .int .i64 ((rd_T41 l3 a5).f2.f0), .slice none 0 0, .int .u32 0, .int .i64 0, .int .i64 0, .slice none 0 0, .slice none 0 0, .int .i64 0]) ?_ 4 _ rfl; (with_reducible repeat (first | refine blk_drewN ?_ _ | refine blk_drew ?_ | refine blk_alloc ?_ _)); refine blk_put (cs := #[.int .u32 ((rd_T41 l3 a5).f0.f0), .int .i64 ((rd_T41 l3 a5).f0.f1), .int .i64 ((rd_T41 l3 a5).f1), .int .i64 0, .slice none 0 0, .int .u32 0, .int .i64 0, .int .i64 0, .slice none 0 0, .slice none 0 0, .int .i64 0]) ?_ 3 _ rfl; (with_reducible repeat (first | refine blk_drewN ?_ _ | refine blk_drew ?_ | refine blk_alloc ?_ _)); refine blk_put (cs := #[.int .u32 ((rd_T41 l3 a5).f0.f0), .int .i64 ((rd_T41 l3 a5).f0.f1), .int .i64 0, .int .i64 0, .slice none 0 0, .int .u32 0, .int .i64 0, .int .i64 0, .slice none 0 0, .slice none 0 0, .int .i64 0]) ?_ 2 _ rfl; (with_reducible repeat (first | refine blk_drewN ?_ _ | refine blk_drew ?_ | refine blk_alloc ?_ _)); refine blk_put (cs := #[.int .u32 ((rd_T41 l3 a5).f0.f0), .int .i64 0, .int .i64 0, .int .i64 0, .slice none 0 0, .int .u32 0, .int .i64 0, .int .i64 0, .slice none 0 0, .slice none 0 0, .int .i64 0]) ?_ 1 _ rfl; (with_reducible repeat (first | refine blk_drewN ?_ _ | refine blk_drew ?_ | refine blk_alloc ?_ _)); refine blk_put (cs := #[.int .u32 0, .int .i64 0, .int .i64 0, .int .i64 0, .slice none 0 0, .int .u32 0, .int .i64 0, .int .i64 0, .slice none 0 0, .slice none 0 0, .int .i64 0]) ?_ 0 _ rfl; (with_reducible repeat (first | refine blk_drewN ?_ _ | refine blk_drew ?_ | refine blk_alloc ?_ _)); exact BK143.out) hb); have n1_ := Aside0.mk (below_step (by repeat (first | (with_reducible first | exact HB.out | apply below_alloc | apply pw_below_drewN | apply below_drew1 | refine below_set ?_ GE143.out) | exact HB.out)) hb); clear BK143; clear HB; have BK143 := n0_; have HB := n1_; clear n0_ n1_; (try clear hb); (try clear hb2); (try clear hk); (try clear hi)))
   go_ret
   exact ⟨by first | rfl | (simp [errW_none, errW_some] <;> rfl) | (simp [*, errW_none, errW_some] <;> rfl), by repeat (first | (with_reducible first | exact HB.out | apply below_alloc | apply pw_below_drewN | apply below_drew1 | refine below_set ?_ GE143.out) | exact HB.out)⟩
  rw [if_pos c64] at H
  have c64b0 : (t156 == a1) = true := beq_iff_eq.mpr c64
  have c64b1 : (t156 != a1) = false := bne_eq_false_iff_eq.mpr c64
  clear c64
  obtain rfl := Option.some.inj H
  have p142 : 0 ≤ (a5 : Int) := of_decide_eq_true (by first | (with_reducible assumption) | assumption)
  have q142 : a5 < (l3.length : Int) := of_decide_eq_true (by first | (with_reducible assumption) | assumption)
  obtain ⟨ad142, A142_4, c142_4, A142_8, c142_8, A142_9, c142_9, e142, hx142_0, hx142_1, hx142_2, hx142_3, hx142_4, hx142_5, hx142_6, hx142_7, hx142_8, hx142_9, hx142_10, hl142_4, hi142_4, hl142_8, hi142_8, hl142_9, hi142_9⟩ := at_T41 HR3.out a5 p142 q142
  cases e142
  have HR142_4 := Aside0.mk hi142_4
  have HC142_4 := Aside0.mk hl142_4
  clear hi142_4 hl142_4
  have HR142_8 := Aside0.mk hi142_8
  have HC142_8 := Aside0.mk hl142_8
  clear hi142_8 hl142_8
  have HR142_9 := Aside0.mk hi142_9
  have HC142_9 := Aside0.mk hl142_9
  clear hi142_9 hl142_9
  replace p142 := eq_true p142
  replace q142 := eq_true q142
  go_enter Try.func31, Try.ntmps31
  go_wp2_with (first | ((with_reducible refine gate_dst (N := 13) rfl ?_); refine box_event ?hg (N := 13) ?hd (cs := #[.int .u32 0, .int .i64 0, .int .i64 0, .int .i64 0, .slice none 0 0, .int .u32 0, .int .i64 0, .int .i64 0, .slice none 0 0, .slice none 0 0, .int .i64 0]) (t := 41) ?hr ?_; (case hd => rfl); (case hg => rfl); (case hr => first | (go_simp; done) | (go_simp; rfl) | (go_simp; simp [IntKind.wrap_u8, IntKind.wrap_u32]; done)); intro gb143 hg w65 hbox hb; have n0_ := Aside0.mk (below_step (by repeat (first | (with_reducible first | exact HB.out | apply below_alloc | apply pw_below_drewN | apply below_drew1) | exact HB.out)) hb); have n1_ := Aside0.mk (hbox); have n2_ := Aside0.mk ((by rw [hg]; exact (below_size (by repeat (first | (with_reducible first | exact HB.out | apply below_alloc | apply pw_below_drewN | apply below_drew1) | exact HB.out))) : w.heap.size ≤ gb143)); have n3_ := Aside0.mk ((by rw [hg]; exact (below_size (by repeat (first | (with_reducible first | exact HB.out | apply below_alloc | apply pw_below_drewN | apply below_drew1) | exact HB.out))) : w.heap.size ≤ gb143)); clear HB; have HB := n0_; have BK143 := n1_; have GW143 := n2_; have GE143 := n3_; clear n0_ n1_ n2_ n3_; clear hb hbox hg; have hcz66_0 : w65.cell? ⟨gb143, 0, none⟩ = some (.int .u32 0) := (blk_cell BK143.out 0).trans rfl; have hcz66_1 : w65.cell? ⟨gb143, 1, none⟩ = some (.int .i64 0) := (blk_cell BK143.out 1).trans rfl; have hcz66_2 : w65.cell? ⟨gb143, 2, none⟩ = some (.int .i64 0) := (blk_cell BK143.out 2).trans rfl; have hcz66_3 : w65.cell? ⟨gb143, 3, none⟩ = some (.int .i64 0) := (blk_cell BK143.out 3).trans rfl; have hcz66_4 : w65.cell? ⟨gb143, 4, none⟩ = some (.slice none 0 0) := (blk_cell BK143.out 4).trans rfl; have hcz66_5 : w65.cell? ⟨gb143, 5, none⟩ = some (.int .u32 0) := (blk_cell BK143.out 5).trans rfl; have hcz66_6 : w65.cell? ⟨gb143, 6, none⟩ = some (.int .i64 0) := (blk_cell BK143.out 6).trans rfl; have hcz66_7 : w65.cell? ⟨gb143, 7, none⟩ = some (.int .i64 0) := (blk_cell BK143.out 7).trans rfl; have hcz66_8 : w65.cell? ⟨gb143, 8, none⟩ = some (.slice none 0 0) := (blk_cell BK143.out 8).trans rfl; have hcz66_9 : w65.cell? ⟨gb143, 9, none⟩ = some (.slice none 0 0) := (blk_cell BK143.out 9).trans rfl; have hcz66_10 : w65.cell? ⟨gb143, 10, none⟩ = some (.int .i64 0) := (blk_cell BK143.out 10).trans rfl; have hfz66_0 := blk_frozen BK143.out 0; have hfz66_1 := blk_frozen BK143.out 1; have hfz66_2 := blk_frozen BK143.out 2; have hfz66_3 := blk_frozen BK143.out 3; have hfz66_4 := blk_frozen BK143.out 4; have hfz66_5 := blk_frozen BK143.out 5; have hfz66_6 := blk_frozen BK143.out 6; have hfz66_7 := blk_frozen BK143.out 7; have hfz66_8 := blk_frozen BK143.out 8; have hfz66_9 := blk_frozen BK143.out 9; have hfz66_10 := blk_frozen BK143.out 10) | ((with_reducible refine gate_callee (f := 45) rfl ?_); refine goesL_ (some 104) rfl rfl Try.func45 (by kernel_rfl) rfl #[.slice A2 l2.length c2, .int .i64 ((rd_T41 l3 a5).f1)] rfl (by (try simp only [List.map_toArray, List.map_cons, List.map_nil]); first | done | rfl | (simp only [List.length_drop, List.length_take]; rfl)) ?_; (with_reducible refine (interregnumref11_info.calls k _ _ l2 ((rd_T41 l3 a5).f1) t155 t156 t157 _ ?side1 ?side2 A63.out).mono ?_); (case side1 => exact Kd.C_below HR2.out (by repeat (first | (with_reducible first | exact HB.out | apply below_alloc | apply pw_below_drewN | apply below_drew1 | refine below_set ?_ GE143.out) | exact HB.out))); (case side2 => exact HC2.out); rintro e w67 ⟨rfl, hb⟩; refine ⟨_, rfl, ?_⟩; have n0_ := Aside0.mk (blk_below (g := gb143) (o := .cells #[.int .u32 ((rd_T41 l3 a5).f0.f0), .int .i64 ((rd_T41 l3 a5).f0.f1), .int .i64 ((rd_T41 l3 a5).f1), .int .i64 ((rd_T41 l3 a5).f2.f0), .slice A142_4 ((rd_T41 l3 a5).f2.f1).length c142_4, .int .u32 ((rd_T41 l3 a5).f2.f2), .int .i64 ((rd_T41 l3 a5).f2.f3), .int .i64 ((rd_T41 l3 a5).f2.f4), .slice A142_8 ((rd_T41 l3 a5).f2.f5).length c142_8, .slice A142_9 ((rd_T41 l3 a5).f2.f6).length c142_9, .int .i64 ((rd_T41 l3 a5).f3)] 41 (0, 0)) (by (with_reducible repeat (first | refine blk_drewN ?_ _ | refine blk_drew ?_ | refine blk_alloc ?_ _)); refine blk_put (cs := #[.int .u32 ((rd_T41 l3 a5).f0.f0), .int .i64 ((rd_T41 l3 a5).f0.f1), .int .i64 ((rd_T41 l3 a5).f1), .int .i64 ((rd_T41 l3 a5).f2.f0), .slice A142_4 ((rd_T41 l3 a5).f2.f1).length c142_4, .int .u32 ((rd_T41 l3 a5).f2.f2), .int .i64 ((rd_T41 l3 a5).f2.f3), .int .i64 ((rd_T41 l3 a5).f2.f4), .slice A142_8 ((rd_T41 l3 a5).f2.f5).length c142_8, .slice A142_9 ((rd_T41 l3 a5).f2.f6).length c142_9, .int .i64 0]) ?_ 10 _ rfl; (with_reducible repeat (first | refine blk_drewN ?_ _ | refine blk_drew ?_ | refine blk_alloc ?_ _)); refine blk_put (cs := #[.int .u32 ((rd_T41 l3 a5).f0.f0), .int .i64 ((rd_T41 l3 a5).f0.f1), .int .i64 ((rd_T41 l3 a5).f1), .int .i64 ((rd_T41 l3 a5).f2.f0), .slice A142_4 ((rd_T41 l3 a5).f2.f1).length c142_4, .int .u32 ((rd_T41 l3 a5).f2.f2), .int .i64 ((rd_T41 l3 a5).f2.f3), .int .i64 ((rd_T41 l3 a5).f2.f4), .slice A142_8 ((rd_T41 l3 a5).f2.f5).length c142_8, .slice none 0 0, .int .i64 0]) ?_ 9 _ rfl; (with_reducible repeat (first | refine blk_drewN ?_ _ | refine blk_drew ?_ | refine blk_alloc ?_ _)); refine blk_put (cs := #[.int .u32 ((rd_T41 l3 a5).f0.f0), .int .i64 ((rd_T41 l3 a5).f0.f1), .int .i64 ((rd_T41 l3 a5).f1), .int .i64 ((rd_T41 l3 a5).f2.f0), .slice A142_4 ((rd_T41 l3 a5).f2.f1).length c142_4, .int .u32 ((rd_T41 l3 a5).f2.f2), .int .i64 ((rd_T41 l3 a5).f2.f3), .int .i64 ((rd_T41 l3 a5).f2.f4), .slice none 0 0, .slice none 0 0, .int .i64 0]) ?_ 8 _ rfl; (with_reducible repeat (first | refine blk_drewN ?_ _ | refine blk_drew ?_ | refine blk_alloc ?_ _)); refine blk_put (cs := #[.int .u32 ((rd_T41 l3 a5).f0.f0), .int .i64 ((rd_T41 l3 a5).f0.f1), .int .i64 ((rd_T41 l3 a5).f1), .int .i64 ((rd_T41 l3 a5).f2.f0), .slice A142_4 ((rd_T41 l3 a5).f2.f1).length c142_4, .int .u32 ((rd_T41 l3 a5).f2.f2), .int .i64 ((rd_T41 l3 a5).f2.f3), .int .i64 0, .slice none 0 0, .slice none 0 0, .int .i64 0]) ?_ 7 _ rfl; (with_reducible repeat (first | refine blk_drewN ?_ _ | refine blk_drew ?_ | refine blk_alloc ?_ _)); refine blk_put (cs := #[.int .u32 ((rd_T41 l3 a5).f0.f0), .int .i64 ((rd_T41 l3 a5).f0.f1), .int .i64 ((rd_T41 l3 a5).f1), .int .i64 ((rd_T41 l3 a5).f2.f0), .slice A142_4 ((rd_T41 l3 a5).f2.f1).length c142_4, .int .u32 ((rd_T41 l3 a5).f2.f2), .int .i64 0, .int .i64 0, .slice none 0 0, .slice none 0 0, .int .i64 0]) ?_ 6 _ rfl; (with_reducible repeat (first | refine blk_drewN ?_ _ | refine blk_drew ?_ | refine blk_alloc ?_ _)); refine blk_put (cs := #[.int .u32 ((rd_T41 l3 a5).f0.f0), .int .i64 ((rd_T41 l3 a5).f0.f1), .int .i64 ((rd_T41 l3 a5).f1), .int .i64 ((rd_T41 l3 a5).f2.f0), .slice A142_4 ((rd_T41 l3 a5).f2.f1).length c142_4, .int .u32 0, .int .i64 0, .int .i64 0, .slice none 0 0, .slice none 0 0, .int .i64 0]) ?_ 5 _ rfl; (with_reducible repeat (first | refine blk_drewN ?_ _ | refine blk_drew ?_ | refine blk_alloc ?_ _)); refine blk_put (cs := #[.int .u32 ((rd_T41 l3 a5).f0.f0), .int .i64 ((rd_T41 l3 a5).f0.f1), .int .i64 ((rd_T41 l3 a5).f1), .int .i64 ((rd_T41 l3 a5).f2.f0), .slice none 0 0, .int .u32 0, .int .i64 0, .int .i64 0, .slice none 0 0, .slice none 0 0, .int .i64 0]) ?_ 4 _ rfl; (with_reducible repeat (first | refine blk_drewN ?_ _ | refine blk_drew ?_ | refine blk_alloc ?_ _)); refine blk_put (cs := #[.int .u32 ((rd_T41 l3 a5).f0.f0), .int .i64 ((rd_T41 l3 a5).f0.f1), .int .i64 ((rd_T41 l3 a5).f1), .int .i64 0, .slice none 0 0, .int .u32 0, .int .i64 0, .int .i64 0, .slice none 0 0, .slice none 0 0, .int .i64 0]) ?_ 3 _ rfl; (with_reducible repeat (first | refine blk_drewN ?_ _ | refine blk_drew ?_ | refine blk_alloc ?_ _)); refine blk_put (cs := #[.int .u32 ((rd_T41 l3 a5).f0.f0), .int .i64 ((rd_T41 l3 a5).f0.f1), .int .i64 0, .int .i64 0, .slice none 0 0, .int .u32 0, .int .i64 0, .int .i64 0, .slice none 0 0, .slice none 0 0, .int .i64 0]) ?_ 2 _ rfl; (with_reducible repeat (first | refine blk_drewN ?_ _ | refine blk_drew ?_ | refine blk_alloc ?_ _)); refine blk_put (cs := #[.int .u32 ((rd_T41 l3 a5).f0.f0), .int .i64 0, .int .i64 0, .int .i64 0, .slice none 0 0, .int .u32 0, .int .i64 0, .int .i64 0, .slice none 0 0, .slice none 0 0, .int .i64 0]) ?_ 1 _ rfl; (with_reducible repeat (first | refine blk_drewN ?_ _ | refine blk_drew ?_ | refine blk_alloc ?_ _)); refine blk_put (cs := #[.int .u32 0, .int .i64 0, .int .i64 0, .int .i64 0, .slice none 0 0, .int .u32 0, .int .i64 0, .int .i64 0, .slice none 0 0, .slice none 0 0, .int .i64 0]) ?_ 0 _ rfl; (with_reducible repeat (first | refine blk_drewN ?_ _ | refine blk_drew ?_ | refine blk_alloc ?_ _)); exact BK143.out) hb); have n1_ := Aside0.mk (below_step (by repeat (first | (with_reducible first | exact HB.out | apply below_alloc | apply pw_below_drewN | apply below_drew1 | refine below_set ?_ GE143.out) | exact HB.out)) hb); clear BK143; clear HB; have BK143 := n0_; have HB := n1_; clear n0_ n1_; (try clear hb); (try clear hb2); (try clear hk); (try clear hi)))
  go_ret
  exact ⟨by first | rfl | (simp [errW_none, errW_some] <;> rfl) | (simp [*, errW_none, errW_some] <;> rfl), by repeat (first | (with_reducible first | exact HB.out | apply below_alloc | apply pw_below_drewN | apply below_drew1 | refine below_set ?_ GE143.out) | exact HB.out)⟩
 rw [if_pos c33] at H
 have c33b0 : (a0 == 5) = true := beq_iff_eq.mpr c33
 have c33b1 : (a0 != 5) = false := bne_eq_false_iff_eq.mpr c33
 clear c33
 replace H := Option.bind_eq_some_iff.mp H
 obtain ⟨⟨t146, t147⟩, A340, H⟩ := H
 replace H : (interregnumref11_score.l0 k l3 l4 t146 t147 0 ((rd_T41 l3 a5).f0.f0) ((rd_T41 l3 a5).f0.f1) ((rd_T41 l3 a5).f1) ((rd_T41 l3 a5).f2.f0) ((rd_T41 l3 a5).f2.f1) ((rd_T41 l3 a5).f2.f2) ((rd_T41 l3 a5).f2.f3) ((rd_T41 l3 a5).f2.f4) ((rd_T41 l3 a5).f2.f5) ((rd_T41 l3 a5).f2.f6) ((rd_T41 l3 a5).f3)) = some r := H
 have A34 := Aside0.mk A340
 clear A340
 have H' := Aside0.mk H
 clear H
 have p142 : 0 ≤ (a5 : Int) := of_decide_eq_true (by first | (with_reducible assumption) | assumption)
 have q142 : a5 < (l3.length : Int) := of_decide_eq_true (by first | (with_reducible assumption) | assumption)
 obtain ⟨ad142, A142_4, c142_4, A142_8, c142_8, A142_9, c142_9, e142, hx142_0, hx142_1, hx142_2, hx142_3, hx142_4, hx142_5, hx142_6, hx142_7, hx142_8, hx142_9, hx142_10, hl142_4, hi142_4, hl142_8, hi142_8, hl142_9, hi142_9⟩ := at_T41 HR3.out a5 p142 q142
 cases e142
 have HR142_4 := Aside0.mk hi142_4
 have HC142_4 := Aside0.mk hl142_4
 clear hi142_4 hl142_4
 have HR142_8 := Aside0.mk hi142_8
 have HC142_8 := Aside0.mk hl142_8
 clear hi142_8 hl142_8
 have HR142_9 := Aside0.mk hi142_9
 have HC142_9 := Aside0.mk hl142_9
 clear hi142_9 hl142_9
 replace p142 := eq_true p142
 replace q142 := eq_true q142
 go_enter Try.func31, Try.ntmps31
 go_wp2_with (first | ((with_reducible refine gate_dst (N := 13) rfl ?_); refine box_event ?hg (N := 13) ?hd (cs := #[.int .u32 0, .int .i64 0, .int .i64 0, .int .i64 0, .slice none 0 0, .int .u32 0, .int .i64 0, .int .i64 0, .slice none 0 0, .slice none 0 0, .int .i64 0]) (t := 41) ?hr ?_; (case hd => rfl); (case hg => rfl); (case hr => first | (go_simp; done) | (go_simp; rfl) | (go_simp; simp [IntKind.wrap_u8, IntKind.wrap_u32]; done)); intro gb143 hg w35 hbox hb; have n0_ := Aside0.mk (below_step (by repeat (first | (with_reducible first | exact HB.out | apply below_alloc | apply pw_below_drewN | apply below_drew1) | exact HB.out)) hb); have n1_ := Aside0.mk (hbox); have n2_ := Aside0.mk ((by rw [hg]; exact (below_size (by repeat (first | (with_reducible first | exact HB.out | apply below_alloc | apply pw_below_drewN | apply below_drew1) | exact HB.out))) : w.heap.size ≤ gb143)); have n3_ := Aside0.mk ((by rw [hg]; exact (below_size (by repeat (first | (with_reducible first | exact HB.out | apply below_alloc | apply pw_below_drewN | apply below_drew1) | exact HB.out))) : w.heap.size ≤ gb143)); clear HB; have HB := n0_; have BK143 := n1_; have GW143 := n2_; have GE143 := n3_; clear n0_ n1_ n2_ n3_; clear hb hbox hg; have hcz36_0 : w35.cell? ⟨gb143, 0, none⟩ = some (.int .u32 0) := (blk_cell BK143.out 0).trans rfl; have hcz36_1 : w35.cell? ⟨gb143, 1, none⟩ = some (.int .i64 0) := (blk_cell BK143.out 1).trans rfl; have hcz36_2 : w35.cell? ⟨gb143, 2, none⟩ = some (.int .i64 0) := (blk_cell BK143.out 2).trans rfl; have hcz36_3 : w35.cell? ⟨gb143, 3, none⟩ = some (.int .i64 0) := (blk_cell BK143.out 3).trans rfl; have hcz36_4 : w35.cell? ⟨gb143, 4, none⟩ = some (.slice none 0 0) := (blk_cell BK143.out 4).trans rfl; have hcz36_5 : w35.cell? ⟨gb143, 5, none⟩ = some (.int .u32 0) := (blk_cell BK143.out 5).trans rfl; have hcz36_6 : w35.cell? ⟨gb143, 6, none⟩ = some (.int .i64 0) := (blk_cell BK143.out 6).trans rfl; have hcz36_7 : w35.cell? ⟨gb143, 7, none⟩ = some (.int .i64 0) := (blk_cell BK143.out 7).trans rfl; have hcz36_8 : w35.cell? ⟨gb143, 8, none⟩ = some (.slice none 0 0) := (blk_cell BK143.out 8).trans rfl; have hcz36_9 : w35.cell? ⟨gb143, 9, none⟩ = some (.slice none 0 0) := (blk_cell BK143.out 9).trans rfl; have hcz36_10 : w35.cell? ⟨gb143, 10, none⟩ = some (.int .i64 0) := (blk_cell BK143.out 10).trans rfl; have hfz36_0 := blk_frozen BK143.out 0; have hfz36_1 := blk_frozen BK143.out 1; have hfz36_2 := blk_frozen BK143.out 2; have hfz36_3 := blk_frozen BK143.out 3; have hfz36_4 := blk_frozen BK143.out 4; have hfz36_5 := blk_frozen BK143.out 5; have hfz36_6 := blk_frozen BK143.out 6; have hfz36_7 := blk_frozen BK143.out 7; have hfz36_8 := blk_frozen BK143.out 8; have hfz36_9 := blk_frozen BK143.out 9; have hfz36_10 := blk_frozen BK143.out 10) | ((with_reducible refine gate_callee (f := 43) rfl ?_); refine goesL_ (some 58) rfl rfl Try.func43 (by kernel_rfl) rfl #[.slice A142_4 ((rd_T41 l3 a5).f2.f1).length c142_4] rfl (by (try simp only [List.map_toArray, List.map_cons, List.map_nil]); first | done | rfl | (simp only [List.length_drop, List.length_take]; rfl)) ?_; (with_reducible refine (interregnumref05_First.calls k _ _ ((rd_T41 l3 a5).f2.f1) t146 t147 _ ?side1 ?side2 A34.out).mono ?_); (case side1 => exact Kd.C_below HR142_4.out (by repeat (first | (with_reducible first | exact HB.out | apply below_alloc | apply pw_below_drewN | apply below_drew1 | refine below_set ?_ GE143.out) | exact HB.out))); (case side2 => exact HC142_4.out); rintro e w' ⟨rfl, ⟨nd, rfl⟩⟩; refine ⟨_, rfl, ?_⟩))
 go_loopg [16] k (fun kq v16 w' => ∃ (x16_1 : Int), v16 = .int .i64 x16_1 ∧ Aside0 (interregnumref11_score.l0 kq l3 l4 t146 t147 x16_1 ((rd_T41 l3 a5).f0.f0) ((rd_T41 l3 a5).f0.f1) ((rd_T41 l3 a5).f1) ((rd_T41 l3 a5).f2.f0) ((rd_T41 l3 a5).f2.f1) ((rd_T41 l3 a5).f2.f2) ((rd_T41 l3 a5).f2.f3) ((rd_T41 l3 a5).f2.f4) ((rd_T41 l3 a5).f2.f5) ((rd_T41 l3 a5).f2.f6) ((rd_T41 l3 a5).f3) = some r) ∧ Aside0 (kq ≤ k) ∧ Aside0 (w'.heap[gb143]? = some (.cells #[.int .u32 ((rd_T41 l3 a5).f0.f0), .int .i64 ((rd_T41 l3 a5).f0.f1), .int .i64 ((rd_T41 l3 a5).f1), .int .i64 ((rd_T41 l3 a5).f2.f0), (.slice A142_4 ((rd_T41 l3 a5).f2.f1).length c142_4), .int .u32 ((rd_T41 l3 a5).f2.f2), .int .i64 ((rd_T41 l3 a5).f2.f3), .int .i64 ((rd_T41 l3 a5).f2.f4), (.slice A142_8 ((rd_T41 l3 a5).f2.f5).length c142_8), (.slice A142_9 ((rd_T41 l3 a5).f2.f6).length c142_9), .int .i64 ((rd_T41 l3 a5).f3)] 41 (0, 0))) ∧ Aside0 (Below w.heap.size w w'))
 case atStart => exact ⟨(0), (by first | rfl | (simp; done) | (simp [*]; done)), H', ⟨Nat.le_refl _⟩, ⟨by (with_reducible repeat (first | refine blk_drewN ?_ _ | refine blk_drew ?_ | refine blk_alloc ?_ _)); refine blk_put (cs := #[.int .u32 ((rd_T41 l3 a5).f0.f0), .int .i64 ((rd_T41 l3 a5).f0.f1), .int .i64 ((rd_T41 l3 a5).f1), .int .i64 ((rd_T41 l3 a5).f2.f0), .slice A142_4 ((rd_T41 l3 a5).f2.f1).length c142_4, .int .u32 ((rd_T41 l3 a5).f2.f2), .int .i64 ((rd_T41 l3 a5).f2.f3), .int .i64 ((rd_T41 l3 a5).f2.f4), .slice A142_8 ((rd_T41 l3 a5).f2.f5).length c142_8, .slice A142_9 ((rd_T41 l3 a5).f2.f6).length c142_9, .int .i64 0]) ?_ 10 _ rfl; (with_reducible repeat (first | refine blk_drewN ?_ _ | refine blk_drew ?_ | refine blk_alloc ?_ _)); refine blk_put (cs := #[.int .u32 ((rd_T41 l3 a5).f0.f0), .int .i64 ((rd_T41 l3 a5).f0.f1), .int .i64 ((rd_T41 l3 a5).f1), .int .i64 ((rd_T41 l3 a5).f2.f0), .slice A142_4 ((rd_T41 l3 a5).f2.f1).length c142_4, .int .u32 ((rd_T41 l3 a5).f2.f2), .int .i64 ((rd_T41 l3 a5).f2.f3), .int .i64 ((rd_T41 l3 a5).f2.f4), .slice A142_8 ((rd_T41 l3 a5).f2.f5).length c142_8, .slice none 0 0, .int .i64 0]) ?_ 9 _ rfl; (with_reducible repeat (first | refine blk_drewN ?_ _ | refine blk_drew ?_ | refine blk_alloc ?_ _)); refine blk_put (cs := #[.int .u32 ((rd_T41 l3 a5).f0.f0), .int .i64 ((rd_T41 l3 a5).f0.f1), .int .i64 ((rd_T41 l3 a5).f1), .int .i64 ((rd_T41 l3 a5).f2.f0), .slice A142_4 ((rd_T41 l3 a5).f2.f1).length c142_4, .int .u32 ((rd_T41 l3 a5).f2.f2), .int .i64 ((rd_T41 l3 a5).f2.f3), .int .i64 ((rd_T41 l3 a5).f2.f4), .slice none 0 0, .slice none 0 0, .int .i64 0]) ?_ 8 _ rfl; (with_reducible repeat (first | refine blk_drewN ?_ _ | refine blk_drew ?_ | refine blk_alloc ?_ _)); refine blk_put (cs := #[.int .u32 ((rd_T41 l3 a5).f0.f0), .int .i64 ((rd_T41 l3 a5).f0.f1), .int .i64 ((rd_T41 l3 a5).f1), .int .i64 ((rd_T41 l3 a5).f2.f0), .slice A142_4 ((rd_T41 l3 a5).f2.f1).length c142_4, .int .u32 ((rd_T41 l3 a5).f2.f2), .int .i64 ((rd_T41 l3 a5).f2.f3), .int .i64 0, .slice none 0 0, .slice none 0 0, .int .i64 0]) ?_ 7 _ rfl; (with_reducible repeat (first | refine blk_drewN ?_ _ | refine blk_drew ?_ | refine blk_alloc ?_ _)); refine blk_put (cs := #[.int .u32 ((rd_T41 l3 a5).f0.f0), .int .i64 ((rd_T41 l3 a5).f0.f1), .int .i64 ((rd_T41 l3 a5).f1), .int .i64 ((rd_T41 l3 a5).f2.f0), .slice A142_4 ((rd_T41 l3 a5).f2.f1).length c142_4, .int .u32 ((rd_T41 l3 a5).f2.f2), .int .i64 0, .int .i64 0, .slice none 0 0, .slice none 0 0, .int .i64 0]) ?_ 6 _ rfl; (with_reducible repeat (first | refine blk_drewN ?_ _ | refine blk_drew ?_ | refine blk_alloc ?_ _)); refine blk_put (cs := #[.int .u32 ((rd_T41 l3 a5).f0.f0), .int .i64 ((rd_T41 l3 a5).f0.f1), .int .i64 ((rd_T41 l3 a5).f1), .int .i64 ((rd_T41 l3 a5).f2.f0), .slice A142_4 ((rd_T41 l3 a5).f2.f1).length c142_4, .int .u32 0, .int .i64 0, .int .i64 0, .slice none 0 0, .slice none 0 0, .int .i64 0]) ?_ 5 _ rfl; (with_reducible repeat (first | refine blk_drewN ?_ _ | refine blk_drew ?_ | refine blk_alloc ?_ _)); refine blk_put (cs := #[.int .u32 ((rd_T41 l3 a5).f0.f0), .int .i64 ((rd_T41 l3 a5).f0.f1), .int .i64 ((rd_T41 l3 a5).f1), .int .i64 ((rd_T41 l3 a5).f2.f0), .slice none 0 0, .int .u32 0, .int .i64 0, .int .i64 0, .slice none 0 0, .slice none 0 0, .int .i64 0]) ?_ 4 _ rfl; (with_reducible repeat (first | refine blk_drewN ?_ _ | refine blk_drew ?_ | refine blk_alloc ?_ _)); refine blk_put (cs := #[.int .u32 ((rd_T41 l3 a5).f0.f0), .int .i64 ((rd_T41 l3 a5).f0.f1), .int .i64 ((rd_T41 l3 a5).f1), .int .i64 0, .slice none 0 0, .int .u32 0, .int .i64 0, .int .i64 0, .slice none 0 0, .slice none 0 0, .int .i64 0]) ?_ 3 _ rfl; (with_reducible repeat (first | refine blk_drewN ?_ _ | refine blk_drew ?_ | refine blk_alloc ?_ _)); refine blk_put (cs := #[.int .u32 ((rd_T41 l3 a5).f0.f0), .int .i64 ((rd_T41 l3 a5).f0.f1), .int .i64 0, .int .i64 0, .slice none 0 0, .int .u32 0, .int .i64 0, .int .i64 0, .slice none 0 0, .slice none 0 0, .int .i64 0]) ?_ 2 _ rfl; (with_reducible repeat (first | refine blk_drewN ?_ _ | refine blk_drew ?_ | refine blk_alloc ?_ _)); refine blk_put (cs := #[.int .u32 ((rd_T41 l3 a5).f0.f0), .int .i64 0, .int .i64 0, .int .i64 0, .slice none 0 0, .int .u32 0, .int .i64 0, .int .i64 0, .slice none 0 0, .slice none 0 0, .int .i64 0]) ?_ 1 _ rfl; (with_reducible repeat (first | refine blk_drewN ?_ _ | refine blk_drew ?_ | refine blk_alloc ?_ _)); refine blk_put (cs := #[.int .u32 0, .int .i64 0, .int .i64 0, .int .i64 0, .slice none 0 0, .int .u32 0, .int .i64 0, .int .i64 0, .slice none 0 0, .slice none 0 0, .int .i64 0]) ?_ 0 _ rfl; (with_reducible repeat (first | refine blk_drewN ?_ _ | refine blk_drew ?_ | refine blk_alloc ?_ _)); exact BK143.out⟩, ⟨by repeat (first | (with_reducible first | exact HB.out | apply below_alloc | apply pw_below_drewN | apply below_drew1 | refine below_set ?_ GE143.out) | exact HB.out)⟩⟩
 clear H'
 try clear c1
 try clear p1
 try clear q1
 try clear hx1
 try clear c2
 try clear p2
 try clear c3
 try clear c4
 try clear p6
 try clear c7
 try clear c7b0
 try clear c8
 try clear c8b0
 try clear c9
 try clear c9b0
 try clear c9b1
 try clear c10
 try clear c10b0
 try clear c14
 try clear p14
 try clear q14
 try clear hx14
 try clear c15
 try clear c15b0
 try clear c15b1
 try clear c16
 try clear c16b0
 try clear c16b1
 try clear c21
 try clear c21b0
 try clear c21b1
 try clear c26
 try clear c26b0
 try clear c26b1
 try clear c30
 try clear c30b0
 try clear c30b1
 try clear c31
 try clear c33
 try clear c33b0
 try clear c33b1
 try clear hcz12_0
 try clear hcz12_1
 try clear hcz12_10
 try clear hcz12_2
 try clear hcz12_3
 try clear hcz12_4
 try clear hcz12_5
 try clear hcz12_6
 try clear hcz12_7
 try clear hcz12_8
 try clear hcz12_9
 try clear hcz14_0
 try clear hcz14_1
 try clear hcz14_10
 try clear hcz14_2
 try clear hcz14_3
 try clear hcz14_4
 try clear hcz14_5
 try clear hcz14_6
 try clear hcz14_7
 try clear hcz14_8
 try clear hcz14_9
 try clear hcz18_0
 try clear hcz18_1
 try clear hcz18_10
 try clear hcz18_2
 try clear hcz18_3
 try clear hcz18_4
 try clear hcz18_5
 try clear hcz18_6
 try clear hcz18_7
 try clear hcz18_8
 try clear hcz18_9
 try clear hcz20_0
 try clear hcz20_1
 try clear hcz20_10
 try clear hcz20_2
 try clear hcz20_3
 try clear hcz20_4
 try clear hcz20_5
 try clear hcz20_6
 try clear hcz20_7
 try clear hcz20_8
 try clear hcz20_9
 try clear hcz24_0
 try clear hcz24_1
 try clear hcz24_10
 try clear hcz24_2
 try clear hcz24_3
 try clear hcz24_4
 try clear hcz24_5
 try clear hcz24_6
 try clear hcz24_7
 try clear hcz24_8
 try clear hcz24_9
 try clear hcz29_0
 try clear hcz29_1
 try clear hcz29_10
 try clear hcz29_2
 try clear hcz29_3
 try clear hcz29_4
 try clear hcz29_5
 try clear hcz29_6
 try clear hcz29_7
 try clear hcz29_8
 try clear hcz29_9
 try clear hcz32_0
 try clear hcz32_1
 try clear hcz32_10
 try clear hcz32_2
 try clear hcz32_3
 try clear hcz32_4
 try clear hcz32_5
 try clear hcz32_6
 try clear hcz32_7
 try clear hcz32_8
 try clear hcz32_9
 try clear hcz36_0
 try clear hcz36_1
 try clear hcz36_10
 try clear hcz36_2
 try clear hcz36_3
 try clear hcz36_4
 try clear hcz36_5
 try clear hcz36_6
 try clear hcz36_7
 try clear hcz36_8
 try clear hcz36_9
 try clear hfz12_0
 try clear hfz12_1
 try clear hfz12_10
 try clear hfz12_2
 try clear hfz12_3
 try clear hfz12_4
 try clear hfz12_5
 try clear hfz12_6
 try clear hfz12_7
 try clear hfz12_8
 try clear hfz12_9
 try clear hfz14_0
 try clear hfz14_1
 try clear hfz14_10
 try clear hfz14_2
 try clear hfz14_3
 try clear hfz14_4
 try clear hfz14_5
 try clear hfz14_6
 try clear hfz14_7
 try clear hfz14_8
 try clear hfz14_9
 try clear hfz18_0
 try clear hfz18_1
 try clear hfz18_10
 try clear hfz18_2
 try clear hfz18_3
 try clear hfz18_4
 try clear hfz18_5
 try clear hfz18_6
 try clear hfz18_7
 try clear hfz18_8
 try clear hfz18_9
 try clear hfz20_0
 try clear hfz20_1
 try clear hfz20_10
 try clear hfz20_2
 try clear hfz20_3
 try clear hfz20_4
 try clear hfz20_5
 try clear hfz20_6
 try clear hfz20_7
 try clear hfz20_8
 try clear hfz20_9
 try clear hfz24_0
 try clear hfz24_1
 try clear hfz24_10
 try clear hfz24_2
 try clear hfz24_3
 try clear hfz24_4
 try clear hfz24_5
 try clear hfz24_6
 try clear hfz24_7
 try clear hfz24_8
 try clear hfz24_9
 try clear hfz29_0
 try clear hfz29_1
 try clear hfz29_10
 try clear hfz29_2
 try clear hfz29_3
 try clear hfz29_4
 try clear hfz29_5
 try clear hfz29_6
 try clear hfz29_7
 try clear hfz29_8
 try clear hfz29_9
 try clear hfz32_0
 try clear hfz32_1
 try clear hfz32_10
 try clear hfz32_2
 try clear hfz32_3
 try clear hfz32_4
 try clear hfz32_5
 try clear hfz32_6
 try clear hfz32_7
 try clear hfz32_8
 try clear hfz32_9
 try clear hfz36_0
 try clear hfz36_1
 try clear hfz36_10
 try clear hfz36_2
 try clear hfz36_3
 try clear hfz36_4
 try clear hfz36_5
 try clear hfz36_6
 try clear hfz36_7
 try clear hfz36_8
 try clear hfz36_9
 try clear hx142_0
 try clear hx142_1
 try clear hx142_10
 try clear hx142_2
 try clear hx142_3
 try clear hx142_4
 try clear hx142_5
 try clear hx142_6
 try clear hx142_7
 try clear hx142_8
 try clear hx142_9
 try clear p142
 try clear q142
 obtain ⟨x16_1, rfl, HA, HK1, BK143, HB⟩ := hrel
 cases gk with
 | zero => exact absurd HA.out (by simp [interregnumref11_score.l0])
 | succ k1 =>
 have H := HA.out
 clear HA
 simp only [interregnumref11_score.l0] at H
 by_cases c37 : x16_1 < (l4.length : Int)
 rotate_left
 ·rw [if_neg c37] at H
  have c37b0 : decide (x16_1 < (l4.length : Int)) = false := decide_eq_false c37
  clear c37
  obtain rfl := Option.some.inj H
  go_wp2
  go_ret
  exact ⟨by first | rfl | (simp [errW_none, errW_some] <;> rfl) | (simp [*, errW_none, errW_some] <;> rfl), by repeat (first | (with_reducible first | exact HB.out | apply below_alloc | apply pw_below_drewN | apply below_drew1 | refine below_set ?_ GE143.out) | exact HB.out)⟩
 rw [if_pos c37] at H
 have c37b0 : decide (x16_1 < (l4.length : Int)) = true := decide_eq_true c37
 clear c37
 by_cases c38 : 0 ≤ x16_1
 rotate_left
 ·rw [if_neg c38] at H
  exact absurd H (by simp)
 rw [if_pos c38] at H
 have c38b0 : decide (0 ≤ x16_1) = true := decide_eq_true c38
 clear c38
 by_cases c39 : 0 ≤ (rd l4 x16_1)
 rotate_left
 ·rw [if_neg c39] at H
  exact absurd H (by simp)
 rw [if_pos c39] at H
 have c39b0 : decide (0 ≤ (rd l4 x16_1)) = true := decide_eq_true c39
 clear c39
 by_cases c40 : (rd l4 x16_1) < (l3.length : Int)
 rotate_left
 ·rw [if_neg c40] at H
  exact absurd H (by simp)
 rw [if_pos c40] at H
 have c40b0 : decide ((rd l4 x16_1) < (l3.length : Int)) = true := decide_eq_true c40
 clear c40
 replace H := Option.bind_eq_some_iff.mp H
 obtain ⟨⟨t151, t152⟩, A410, H⟩ := H
 replace H : (if t147 = true then (if t152 = true then (if t146 = t151 then ((interregnumref11_med.f ((rd_T41 l3 (rd l4 x16_1)).f2.f0) ((rd_T41 l3 (rd l4 x16_1)).f2.f1) ((rd_T41 l3 (rd l4 x16_1)).f2.f2) ((rd_T41 l3 (rd l4 x16_1)).f2.f3) ((rd_T41 l3 (rd l4 x16_1)).f2.f4) ((rd_T41 l3 (rd l4 x16_1)).f2.f5) ((rd_T41 l3 (rd l4 x16_1)).f2.f6)).bind fun t153 => ((interregnumref11_med.f ((rd_T41 l3 a5).f2.f0) ((rd_T41 l3 a5).f2.f1) ((rd_T41 l3 a5).f2.f2) ((rd_T41 l3 a5).f2.f3) ((rd_T41 l3 a5).f2.f4) ((rd_T41 l3 a5).f2.f5) ((rd_T41 l3 a5).f2.f6)).bind fun t154 => (interregnumref11_score.j1 k1 l3 l4 t146 t147 x16_1 (decide (t153 < t154)) ((rd_T41 l3 a5).f0.f0) ((rd_T41 l3 a5).f0.f1) ((rd_T41 l3 a5).f1) ((rd_T41 l3 a5).f2.f0) ((rd_T41 l3 a5).f2.f1) ((rd_T41 l3 a5).f2.f2) ((rd_T41 l3 a5).f2.f3) ((rd_T41 l3 a5).f2.f4) ((rd_T41 l3 a5).f2.f5) ((rd_T41 l3 a5).f2.f6) ((rd_T41 l3 a5).f3)))) else (interregnumref11_score.j1 k1 l3 l4 t146 t147 x16_1 false ((rd_T41 l3 a5).f0.f0) ((rd_T41 l3 a5).f0.f1) ((rd_T41 l3 a5).f1) ((rd_T41 l3 a5).f2.f0) ((rd_T41 l3 a5).f2.f1) ((rd_T41 l3 a5).f2.f2) ((rd_T41 l3 a5).f2.f3) ((rd_T41 l3 a5).f2.f4) ((rd_T41 l3 a5).f2.f5) ((rd_T41 l3 a5).f2.f6) ((rd_T41 l3 a5).f3))) else (interregnumref11_score.j1 k1 l3 l4 t146 t147 x16_1 false ((rd_T41 l3 a5).f0.f0) ((rd_T41 l3 a5).f0.f1) ((rd_T41 l3 a5).f1) ((rd_T41 l3 a5).f2.f0) ((rd_T41 l3 a5).f2.f1) ((rd_T41 l3 a5).f2.f2) ((rd_T41 l3 a5).f2.f3) ((rd_T41 l3 a5).f2.f4) ((rd_T41 l3 a5).f2.f5) ((rd_T41 l3 a5).f2.f6) ((rd_T41 l3 a5).f3))) else (interregnumref11_score.j1 k1 l3 l4 t146 t147 x16_1 false ((rd_T41 l3 a5).f0.f0) ((rd_T41 l3 a5).f0.f1) ((rd_T41 l3 a5).f1) ((rd_T41 l3 a5).f2.f0) ((rd_T41 l3 a5).f2.f1) ((rd_T41 l3 a5).f2.f2) ((rd_T41 l3 a5).f2.f3) ((rd_T41 l3 a5).f2.f4) ((rd_T41 l3 a5).f2.f5) ((rd_T41 l3 a5).f2.f6) ((rd_T41 l3 a5).f3))) = some r := H
 have A41 := Aside0.mk A410
 clear A410
 have HC42 := Aside0.mk H
 clear H
 have p148 : 0 ≤ (x16_1 : Int) := of_decide_eq_true (by first | (with_reducible assumption) | assumption)
 have q148 : x16_1 < (l4.length : Int) := of_decide_eq_true (by first | (with_reducible assumption) | assumption)
 obtain ⟨ad148, e148, hx148_0⟩ := Kd.at_int HR4.out x16_1 p148 q148
 cases e148
 replace hx148_0 := (HB.out.cell (World.block_lt_of_cell? w _ hx148_0)).trans hx148_0
 replace p148 := eq_true p148
 replace q148 := eq_true q148
 have p149 : 0 ≤ ((rd l4 x16_1) : Int) := of_decide_eq_true (by first | (with_reducible assumption) | assumption)
 have q149 : (rd l4 x16_1) < (l3.length : Int) := of_decide_eq_true (by first | (with_reducible assumption) | assumption)
 obtain ⟨ad149, A149_4, c149_4, A149_8, c149_8, A149_9, c149_9, e149, hx149_0, hx149_1, hx149_2, hx149_3, hx149_4, hx149_5, hx149_6, hx149_7, hx149_8, hx149_9, hx149_10, hl149_4, hi149_4, hl149_8, hi149_8, hl149_9, hi149_9⟩ := at_T41 HR3.out (rd l4 x16_1) p149 q149
 obtain rfl : ad142 = ad149 := (by injection e149)
 replace hx149_0 := (HB.out.cell (World.block_lt_of_cell? w _ hx149_0)).trans hx149_0
 replace hx149_1 := (HB.out.cell (World.block_lt_of_cell? w _ hx149_1)).trans hx149_1
 replace hx149_2 := (HB.out.cell (World.block_lt_of_cell? w _ hx149_2)).trans hx149_2
 replace hx149_3 := (HB.out.cell (World.block_lt_of_cell? w _ hx149_3)).trans hx149_3
 replace hx149_4 := (HB.out.cell (World.block_lt_of_cell? w _ hx149_4)).trans hx149_4
 replace hx149_5 := (HB.out.cell (World.block_lt_of_cell? w _ hx149_5)).trans hx149_5
 replace hx149_6 := (HB.out.cell (World.block_lt_of_cell? w _ hx149_6)).trans hx149_6
 replace hx149_7 := (HB.out.cell (World.block_lt_of_cell? w _ hx149_7)).trans hx149_7
 replace hx149_8 := (HB.out.cell (World.block_lt_of_cell? w _ hx149_8)).trans hx149_8
 replace hx149_9 := (HB.out.cell (World.block_lt_of_cell? w _ hx149_9)).trans hx149_9
 replace hx149_10 := (HB.out.cell (World.block_lt_of_cell? w _ hx149_10)).trans hx149_10
 have HR149_4 := Aside0.mk hi149_4
 have HC149_4 := Aside0.mk hl149_4
 clear hi149_4 hl149_4
 have HR149_8 := Aside0.mk hi149_8
 have HC149_8 := Aside0.mk hl149_8
 clear hi149_8 hl149_8
 have HR149_9 := Aside0.mk hi149_9
 have HC149_9 := Aside0.mk hl149_9
 clear hi149_9 hl149_9
 replace p149 := eq_true p149
 replace q149 := eq_true q149
 go_upto_region 24 with (first | ((with_reducible refine gate_dst (N := 17) rfl ?_); refine box_event ?hg (N := 17) ?hd (cs := #[.int .u32 0, .int .i64 0, .int .i64 0, .int .i64 0, .slice none 0 0, .int .u32 0, .int .i64 0, .int .i64 0, .slice none 0 0, .slice none 0 0, .int .i64 0]) (t := 41) ?hr ?_; (case hd => rfl); (case hg => rfl); (case hr => first | (go_simp; done) | (go_simp; rfl) | (go_simp; simp [IntKind.wrap_u8, IntKind.wrap_u32]; done)); intro gb150 hg w43 hbox hb; have n0_ := Aside0.mk (blk_below (g := gb143) (o := .cells #[.int .u32 ((rd_T41 l3 a5).f0.f0), .int .i64 ((rd_T41 l3 a5).f0.f1), .int .i64 ((rd_T41 l3 a5).f1), .int .i64 ((rd_T41 l3 a5).f2.f0), .slice A142_4 ((rd_T41 l3 a5).f2.f1).length c142_4, .int .u32 ((rd_T41 l3 a5).f2.f2), .int .i64 ((rd_T41 l3 a5).f2.f3), .int .i64 ((rd_T41 l3 a5).f2.f4), .slice A142_8 ((rd_T41 l3 a5).f2.f5).length c142_8, .slice A142_9 ((rd_T41 l3 a5).f2.f6).length c142_9, .int .i64 ((rd_T41 l3 a5).f3)] 41 (0, 0)) (by (with_reducible repeat (first | refine blk_drewN ?_ _ | refine blk_drew ?_ | refine blk_alloc ?_ _)); exact BK143.out) hb); have n1_ := Aside0.mk (below_step (by repeat (first | (with_reducible first | exact HB.out | apply below_alloc | apply pw_below_drewN | apply below_drew1 | refine below_set ?_ GE143.out) | exact HB.out)) hb); have n2_ := Aside0.mk (hbox); have n3_ := Aside0.mk ((by rw [hg]; exact (below_size (by repeat (first | (with_reducible first | exact HB.out | apply below_alloc | apply pw_below_drewN | apply below_drew1 | refine below_set ?_ GE143.out) | exact HB.out))) : w.heap.size ≤ gb150)); have n4_ := Aside0.mk ((by rw [hg]; exact (below_size (by repeat (first | (with_reducible first | exact HB.out | apply below_alloc | apply pw_below_drewN | apply below_drew1 | refine below_set ?_ GE143.out) | exact HB.out))) : w.heap.size ≤ gb150)); have n5_ := Aside0.mk ((by rw [hg]; exact Nat.ne_of_lt (blk_lt (g := gb143) (o := .cells #[.int .u32 ((rd_T41 l3 a5).f0.f0), .int .i64 ((rd_T41 l3 a5).f0.f1), .int .i64 ((rd_T41 l3 a5).f1), .int .i64 ((rd_T41 l3 a5).f2.f0), .slice A142_4 ((rd_T41 l3 a5).f2.f1).length c142_4, .int .u32 ((rd_T41 l3 a5).f2.f2), .int .i64 ((rd_T41 l3 a5).f2.f3), .int .i64 ((rd_T41 l3 a5).f2.f4), .slice A142_8 ((rd_T41 l3 a5).f2.f5).length c142_8, .slice A142_9 ((rd_T41 l3 a5).f2.f6).length c142_9, .int .i64 ((rd_T41 l3 a5).f3)] 41 (0, 0)) (by (with_reducible repeat (first | refine blk_drewN ?_ _ | refine blk_drew ?_ | refine blk_alloc ?_ _)); exact BK143.out)) : gb143 ≠ gb150)); have n6_ := Aside0.mk ((by rw [hg]; exact Nat.ne_of_gt (blk_lt (g := gb143) (o := .cells #[.int .u32 ((rd_T41 l3 a5).f0.f0), .int .i64 ((rd_T41 l3 a5).f0.f1), .int .i64 ((rd_T41 l3 a5).f1), .int .i64 ((rd_T41 l3 a5).f2.f0), .slice A142_4 ((rd_T41 l3 a5).f2.f1).length c142_4, .int .u32 ((rd_T41 l3 a5).f2.f2), .int .i64 ((rd_T41 l3 a5).f2.f3), .int .i64 ((rd_T41 l3 a5).f2.f4), .slice A142_8 ((rd_T41 l3 a5).f2.f5).length c142_8, .slice A142_9 ((rd_T41 l3 a5).f2.f6).length c142_9, .int .i64 ((rd_T41 l3 a5).f3)] 41 (0, 0)) (by (with_reducible repeat (first | refine blk_drewN ?_ _ | refine blk_drew ?_ | refine blk_alloc ?_ _)); exact BK143.out)) : gb150 ≠ gb143)); clear BK143; clear HB; have BK143 := n0_; have HB := n1_; have BK150 := n2_; have GW150 := n3_; have GE150 := n4_; have NB143_150 := n5_; have NB150_143 := n6_; clear n0_ n1_ n2_ n3_ n4_ n5_ n6_; clear hb hbox hg; have hnb44 := NB150_143.out; have hnc44 := NB143_150.out; have hcz45_0 : w43.cell? ⟨gb150, 0, none⟩ = some (.int .u32 0) := (blk_cell BK150.out 0).trans rfl; have hcz45_1 : w43.cell? ⟨gb150, 1, none⟩ = some (.int .i64 0) := (blk_cell BK150.out 1).trans rfl; have hcz45_2 : w43.cell? ⟨gb150, 2, none⟩ = some (.int .i64 0) := (blk_cell BK150.out 2).trans rfl; have hcz45_3 : w43.cell? ⟨gb150, 3, none⟩ = some (.int .i64 0) := (blk_cell BK150.out 3).trans rfl; have hcz45_4 : w43.cell? ⟨gb150, 4, none⟩ = some (.slice none 0 0) := (blk_cell BK150.out 4).trans rfl; have hcz45_5 : w43.cell? ⟨gb150, 5, none⟩ = some (.int .u32 0) := (blk_cell BK150.out 5).trans rfl; have hcz45_6 : w43.cell? ⟨gb150, 6, none⟩ = some (.int .i64 0) := (blk_cell BK150.out 6).trans rfl; have hcz45_7 : w43.cell? ⟨gb150, 7, none⟩ = some (.int .i64 0) := (blk_cell BK150.out 7).trans rfl; have hcz45_8 : w43.cell? ⟨gb150, 8, none⟩ = some (.slice none 0 0) := (blk_cell BK150.out 8).trans rfl; have hcz45_9 : w43.cell? ⟨gb150, 9, none⟩ = some (.slice none 0 0) := (blk_cell BK150.out 9).trans rfl; have hcz45_10 : w43.cell? ⟨gb150, 10, none⟩ = some (.int .i64 0) := (blk_cell BK150.out 10).trans rfl; have hfz45_0 := blk_frozen BK150.out 0; have hfz45_1 := blk_frozen BK150.out 1; have hfz45_2 := blk_frozen BK150.out 2; have hfz45_3 := blk_frozen BK150.out 3; have hfz45_4 := blk_frozen BK150.out 4; have hfz45_5 := blk_frozen BK150.out 5; have hfz45_6 := blk_frozen BK150.out 6; have hfz45_7 := blk_frozen BK150.out 7; have hfz45_8 := blk_frozen BK150.out 8; have hfz45_9 := blk_frozen BK150.out 9; have hfz45_10 := blk_frozen BK150.out 10) | ((with_reducible refine gate_callee (f := 43) rfl ?_); refine goesL_ (some 78) rfl rfl Try.func43 (by kernel_rfl) rfl #[.slice A149_4 ((rd_T41 l3 (rd l4 x16_1)).f2.f1).length c149_4] rfl (by (try simp only [List.map_toArray, List.map_cons, List.map_nil]); first | done | rfl | (simp only [List.length_drop, List.length_take]; rfl)) ?_; (with_reducible refine (interregnumref05_First.calls k1 _ _ ((rd_T41 l3 (rd l4 x16_1)).f2.f1) t151 t152 _ ?side1 ?side2 A41.out).mono ?_); (case side1 => exact Kd.C_below HR149_4.out (by repeat (first | (with_reducible first | exact HB.out | apply below_alloc | apply pw_below_drewN | apply below_drew1 | refine below_set ?_ GE143.out | refine below_set ?_ GE150.out) | exact HB.out))); (case side2 => exact HC149_4.out); rintro e w' ⟨rfl, ⟨nd, rfl⟩⟩; refine ⟨_, rfl, ?_⟩))
 (try simp only [Act.put, q1_, q2_, q3_])
 go_cut [98] (fun v98 wc => ∃ (kq : Nat) (x98_41 : Bool), v98 = .bool x98_41 ∧ Aside0 (interregnumref11_score.j1 kq l3 l4 t146 t147 x16_1 x98_41 ((rd_T41 l3 a5).f0.f0) ((rd_T41 l3 a5).f0.f1) ((rd_T41 l3 a5).f1) ((rd_T41 l3 a5).f2.f0) ((rd_T41 l3 a5).f2.f1) ((rd_T41 l3 a5).f2.f2) ((rd_T41 l3 a5).f2.f3) ((rd_T41 l3 a5).f2.f4) ((rd_T41 l3 a5).f2.f5) ((rd_T41 l3 a5).f2.f6) ((rd_T41 l3 a5).f3) = some r) ∧ Aside0 (kq ≤ k1) ∧ Aside0 (wc.heap[gb143]? = some (.cells #[.int .u32 ((rd_T41 l3 a5).f0.f0), .int .i64 ((rd_T41 l3 a5).f0.f1), .int .i64 ((rd_T41 l3 a5).f1), .int .i64 ((rd_T41 l3 a5).f2.f0), (.slice A142_4 ((rd_T41 l3 a5).f2.f1).length c142_4), .int .u32 ((rd_T41 l3 a5).f2.f2), .int .i64 ((rd_T41 l3 a5).f2.f3), .int .i64 ((rd_T41 l3 a5).f2.f4), (.slice A142_8 ((rd_T41 l3 a5).f2.f5).length c142_8), (.slice A142_9 ((rd_T41 l3 a5).f2.f6).length c142_9), .int .i64 ((rd_T41 l3 a5).f3)] 41 (0, 0))) ∧ Aside0 (wc.heap[gb150]? = some (.cells #[.int .u32 ((rd_T41 l3 (rd l4 x16_1)).f0.f0), .int .i64 ((rd_T41 l3 (rd l4 x16_1)).f0.f1), .int .i64 ((rd_T41 l3 (rd l4 x16_1)).f1), .int .i64 ((rd_T41 l3 (rd l4 x16_1)).f2.f0), (.slice A149_4 ((rd_T41 l3 (rd l4 x16_1)).f2.f1).length c149_4), .int .u32 ((rd_T41 l3 (rd l4 x16_1)).f2.f2), .int .i64 ((rd_T41 l3 (rd l4 x16_1)).f2.f3), .int .i64 ((rd_T41 l3 (rd l4 x16_1)).f2.f4), (.slice A149_8 ((rd_T41 l3 (rd l4 x16_1)).f2.f5).length c149_8), (.slice A149_9 ((rd_T41 l3 (rd l4 x16_1)).f2.f6).length c149_9), .int .i64 ((rd_T41 l3 (rd l4 x16_1)).f3)] 41 (0, 0))) ∧ Aside0 (Below w.heap.size w wc))
 case first =>
  have H := HC42.out
  clear HC42
  by_cases c46 : t147 = true
  rotate_left
  ·replace c46 := Bool.eq_false_iff.mpr c46
   subst c46
   have H1 : (interregnumref11_score.j1 k1 l3 l4 t146 false x16_1 false ((rd_T41 l3 a5).f0.f0) ((rd_T41 l3 a5).f0.f1) ((rd_T41 l3 a5).f1) ((rd_T41 l3 a5).f2.f0) ((rd_T41 l3 a5).f2.f1) ((rd_T41 l3 a5).f2.f2) ((rd_T41 l3 a5).f2.f3) ((rd_T41 l3 a5).f2.f4) ((rd_T41 l3 a5).f2.f5) ((rd_T41 l3 a5).f2.f6) ((rd_T41 l3 a5).f3)) = some r := by rw [if_neg (show ¬ (false = true) by decide)] at H; exact H
   clear H
   have H := H1
   clear H1
   have H' := Aside0.mk H
   clear H
   try go_wp2
   have n0_ : Aside0 ((((((((((((w43.setCell ⟨gb150, 0, none⟩ (.int .u32 ((rd_T41 l3 (rd l4 x16_1)).f0.f0))).setCell ⟨gb150, 1, none⟩ (.int .i64 ((rd_T41 l3 (rd l4 x16_1)).f0.f1))).setCell ⟨gb150, 2, none⟩ (.int .i64 ((rd_T41 l3 (rd l4 x16_1)).f1))).setCell ⟨gb150, 3, none⟩ (.int .i64 ((rd_T41 l3 (rd l4 x16_1)).f2.f0))).setCell ⟨gb150, 4, none⟩ (.slice A149_4 ((rd_T41 l3 (rd l4 x16_1)).f2.f1).length c149_4)).setCell ⟨gb150, 5, none⟩ (.int .u32 ((rd_T41 l3 (rd l4 x16_1)).f2.f2))).setCell ⟨gb150, 6, none⟩ (.int .i64 ((rd_T41 l3 (rd l4 x16_1)).f2.f3))).setCell ⟨gb150, 7, none⟩ (.int .i64 ((rd_T41 l3 (rd l4 x16_1)).f2.f4))).setCell ⟨gb150, 8, none⟩ (.slice A149_8 ((rd_T41 l3 (rd l4 x16_1)).f2.f5).length c149_8)).setCell ⟨gb150, 9, none⟩ (.slice A149_9 ((rd_T41 l3 (rd l4 x16_1)).f2.f6).length c149_9)).setCell ⟨gb150, 10, none⟩ (.int .i64 ((rd_T41 l3 (rd l4 x16_1)).f3))).heap[gb143]? = some (.cells #[.int .u32 ((rd_T41 l3 a5).f0.f0), .int .i64 ((rd_T41 l3 a5).f0.f1), .int .i64 ((rd_T41 l3 a5).f1), .int .i64 ((rd_T41 l3 a5).f2.f0), .slice A142_4 ((rd_T41 l3 a5).f2.f1).length c142_4, .int .u32 ((rd_T41 l3 a5).f2.f2), .int .i64 ((rd_T41 l3 a5).f2.f3), .int .i64 ((rd_T41 l3 a5).f2.f4), .slice A142_8 ((rd_T41 l3 a5).f2.f5).length c142_8, .slice A142_9 ((rd_T41 l3 a5).f2.f6).length c142_9, .int .i64 ((rd_T41 l3 a5).f3)] 41 (0, 0))) := ⟨by (with_reducible repeat (first | refine blk_drewN ?_ _ | refine blk_drew ?_ | refine blk_alloc ?_ _)); refine blk_far ?_ NB143_150.out _; (with_reducible repeat (first | refine blk_drewN ?_ _ | refine blk_drew ?_ | refine blk_alloc ?_ _)); refine blk_far ?_ NB143_150.out _; (with_reducible repeat (first | refine blk_drewN ?_ _ | refine blk_drew ?_ | refine blk_alloc ?_ _)); refine blk_far ?_ NB143_150.out _; (with_reducible repeat (first | refine blk_drewN ?_ _ | refine blk_drew ?_ | refine blk_alloc ?_ _)); refine blk_far ?_ NB143_150.out _; (with_reducible repeat (first | refine blk_drewN ?_ _ | refine blk_drew ?_ | refine blk_alloc ?_ _)); refine blk_far ?_ NB143_150.out _; (with_reducible repeat (first | refine blk_drewN ?_ _ | refine blk_drew ?_ | refine blk_alloc ?_ _)); refine blk_far ?_ NB143_150.out _; (with_reducible repeat (first | refine blk_drewN ?_ _ | refine blk_drew ?_ | refine blk_alloc ?_ _)); refine blk_far ?_ NB143_150.out _; (with_reducible repeat (first | refine blk_drewN ?_ _ | refine blk_drew ?_ | refine blk_alloc ?_ _)); refine blk_far ?_ NB143_150.out _; (with_reducible repeat (first | refine blk_drewN ?_ _ | refine blk_drew ?_ | refine blk_alloc ?_ _)); refine blk_far ?_ NB143_150.out _; (with_reducible repeat (first | refine blk_drewN ?_ _ | refine blk_drew ?_ | refine blk_alloc ?_ _)); refine blk_far ?_ NB143_150.out _; (with_reducible repeat (first | refine blk_drewN ?_ _ | refine blk_drew ?_ | refine blk_alloc ?_ _)); refine blk_far ?_ NB143_150.out _; (with_reducible repeat (first | refine blk_drewN ?_ _ | refine blk_drew ?_ | refine blk_alloc ?_ _)); exact BK143.out⟩
   have n1_ : Aside0 ((((((((((((w43.setCell ⟨gb150, 0, none⟩ (.int .u32 ((rd_T41 l3 (rd l4 x16_1)).f0.f0))).setCell ⟨gb150, 1, none⟩ (.int .i64 ((rd_T41 l3 (rd l4 x16_1)).f0.f1))).setCell ⟨gb150, 2, none⟩ (.int .i64 ((rd_T41 l3 (rd l4 x16_1)).f1))).setCell ⟨gb150, 3, none⟩ (.int .i64 ((rd_T41 l3 (rd l4 x16_1)).f2.f0))).setCell ⟨gb150, 4, none⟩ (.slice A149_4 ((rd_T41 l3 (rd l4 x16_1)).f2.f1).length c149_4)).setCell ⟨gb150, 5, none⟩ (.int .u32 ((rd_T41 l3 (rd l4 x16_1)).f2.f2))).setCell ⟨gb150, 6, none⟩ (.int .i64 ((rd_T41 l3 (rd l4 x16_1)).f2.f3))).setCell ⟨gb150, 7, none⟩ (.int .i64 ((rd_T41 l3 (rd l4 x16_1)).f2.f4))).setCell ⟨gb150, 8, none⟩ (.slice A149_8 ((rd_T41 l3 (rd l4 x16_1)).f2.f5).length c149_8)).setCell ⟨gb150, 9, none⟩ (.slice A149_9 ((rd_T41 l3 (rd l4 x16_1)).f2.f6).length c149_9)).setCell ⟨gb150, 10, none⟩ (.int .i64 ((rd_T41 l3 (rd l4 x16_1)).f3))).heap[gb150]? = some (.cells #[.int .u32 ((rd_T41 l3 (rd l4 x16_1)).f0.f0), .int .i64 ((rd_T41 l3 (rd l4 x16_1)).f0.f1), .int .i64 ((rd_T41 l3 (rd l4 x16_1)).f1), .int .i64 ((rd_T41 l3 (rd l4 x16_1)).f2.f0), .slice A149_4 ((rd_T41 l3 (rd l4 x16_1)).f2.f1).length c149_4, .int .u32 ((rd_T41 l3 (rd l4 x16_1)).f2.f2), .int .i64 ((rd_T41 l3 (rd l4 x16_1)).f2.f3), .int .i64 ((rd_T41 l3 (rd l4 x16_1)).f2.f4), .slice A149_8 ((rd_T41 l3 (rd l4 x16_1)).f2.f5).length c149_8, .slice A149_9 ((rd_T41 l3 (rd l4 x16_1)).f2.f6).length c149_9, .int .i64 ((rd_T41 l3 (rd l4 x16_1)).f3)] 41 (0, 0))) := ⟨by (with_reducible repeat (first | refine blk_drewN ?_ _ | refine blk_drew ?_ | refine blk_alloc ?_ _)); refine blk_put (cs := #[.int .u32 ((rd_T41 l3 (rd l4 x16_1)).f0.f0), .int .i64 ((rd_T41 l3 (rd l4 x16_1)).f0.f1), .int .i64 ((rd_T41 l3 (rd l4 x16_1)).f1), .int .i64 ((rd_T41 l3 (rd l4 x16_1)).f2.f0), .slice A149_4 ((rd_T41 l3 (rd l4 x16_1)).f2.f1).length c149_4, .int .u32 ((rd_T41 l3 (rd l4 x16_1)).f2.f2), .int .i64 ((rd_T41 l3 (rd l4 x16_1)).f2.f3), .int .i64 ((rd_T41 l3 (rd l4 x16_1)).f2.f4), .slice A149_8 ((rd_T41 l3 (rd l4 x16_1)).f2.f5).length c149_8, .slice A149_9 ((rd_T41 l3 (rd l4 x16_1)).f2.f6).length c149_9, .int .i64 0]) ?_ 10 _ rfl; (with_reducible repeat (first | refine blk_drewN ?_ _ | refine blk_drew ?_ | refine blk_alloc ?_ _)); refine blk_put (cs := #[.int .u32 ((rd_T41 l3 (rd l4 x16_1)).f0.f0), .int .i64 ((rd_T41 l3 (rd l4 x16_1)).f0.f1), .int .i64 ((rd_T41 l3 (rd l4 x16_1)).f1), .int .i64 ((rd_T41 l3 (rd l4 x16_1)).f2.f0), .slice A149_4 ((rd_T41 l3 (rd l4 x16_1)).f2.f1).length c149_4, .int .u32 ((rd_T41 l3 (rd l4 x16_1)).f2.f2), .int .i64 ((rd_T41 l3 (rd l4 x16_1)).f2.f3), .int .i64 ((rd_T41 l3 (rd l4 x16_1)).f2.f4), .slice A149_8 ((rd_T41 l3 (rd l4 x16_1)).f2.f5).length c149_8, .slice none 0 0, .int .i64 0]) ?_ 9 _ rfl; (with_reducible repeat (first | refine blk_drewN ?_ _ | refine blk_drew ?_ | refine blk_alloc ?_ _)); refine blk_put (cs := #[.int .u32 ((rd_T41 l3 (rd l4 x16_1)).f0.f0), .int .i64 ((rd_T41 l3 (rd l4 x16_1)).f0.f1), .int .i64 ((rd_T41 l3 (rd l4 x16_1)).f1), .int .i64 ((rd_T41 l3 (rd l4 x16_1)).f2.f0), .slice A149_4 ((rd_T41 l3 (rd l4 x16_1)).f2.f1).length c149_4, .int .u32 ((rd_T41 l3 (rd l4 x16_1)).f2.f2), .int .i64 ((rd_T41 l3 (rd l4 x16_1)).f2.f3), .int .i64 ((rd_T41 l3 (rd l4 x16_1)).f2.f4), .slice none 0 0, .slice none 0 0, .int .i64 0]) ?_ 8 _ rfl; (with_reducible repeat (first | refine blk_drewN ?_ _ | refine blk_drew ?_ | refine blk_alloc ?_ _)); refine blk_put (cs := #[.int .u32 ((rd_T41 l3 (rd l4 x16_1)).f0.f0), .int .i64 ((rd_T41 l3 (rd l4 x16_1)).f0.f1), .int .i64 ((rd_T41 l3 (rd l4 x16_1)).f1), .int .i64 ((rd_T41 l3 (rd l4 x16_1)).f2.f0), .slice A149_4 ((rd_T41 l3 (rd l4 x16_1)).f2.f1).length c149_4, .int .u32 ((rd_T41 l3 (rd l4 x16_1)).f2.f2), .int .i64 ((rd_T41 l3 (rd l4 x16_1)).f2.f3), .int .i64 0, .slice none 0 0, .slice none 0 0, .int .i64 0]) ?_ 7 _ rfl; (with_reducible repeat (first | refine blk_drewN ?_ _ | refine blk_drew ?_ | refine blk_alloc ?_ _)); refine blk_put (cs := #[.int .u32 ((rd_T41 l3 (rd l4 x16_1)).f0.f0), .int .i64 ((rd_T41 l3 (rd l4 x16_1)).f0.f1), .int .i64 ((rd_T41 l3 (rd l4 x16_1)).f1), .int .i64 ((rd_T41 l3 (rd l4 x16_1)).f2.f0), .slice A149_4 ((rd_T41 l3 (rd l4 x16_1)).f2.f1).length c149_4, .int .u32 ((rd_T41 l3 (rd l4 x16_1)).f2.f2), .int .i64 0, .int .i64 0, .slice none 0 0, .slice none 0 0, .int .i64 0]) ?_ 6 _ rfl; (with_reducible repeat (first | refine blk_drewN ?_ _ | refine blk_drew ?_ | refine blk_alloc ?_ _)); refine blk_put (cs := #[.int .u32 ((rd_T41 l3 (rd l4 x16_1)).f0.f0), .int .i64 ((rd_T41 l3 (rd l4 x16_1)).f0.f1), .int .i64 ((rd_T41 l3 (rd l4 x16_1)).f1), .int .i64 ((rd_T41 l3 (rd l4 x16_1)).f2.f0), .slice A149_4 ((rd_T41 l3 (rd l4 x16_1)).f2.f1).length c149_4, .int .u32 0, .int .i64 0, .int .i64 0, .slice none 0 0, .slice none 0 0, .int .i64 0]) ?_ 5 _ rfl; (with_reducible repeat (first | refine blk_drewN ?_ _ | refine blk_drew ?_ | refine blk_alloc ?_ _)); refine blk_put (cs := #[.int .u32 ((rd_T41 l3 (rd l4 x16_1)).f0.f0), .int .i64 ((rd_T41 l3 (rd l4 x16_1)).f0.f1), .int .i64 ((rd_T41 l3 (rd l4 x16_1)).f1), .int .i64 ((rd_T41 l3 (rd l4 x16_1)).f2.f0), .slice none 0 0, .int .u32 0, .int .i64 0, .int .i64 0, .slice none 0 0, .slice none 0 0, .int .i64 0]) ?_ 4 _ rfl; (with_reducible repeat (first | refine blk_drewN ?_ _ | refine blk_drew ?_ | refine blk_alloc ?_ _)); refine blk_put (cs := #[.int .u32 ((rd_T41 l3 (rd l4 x16_1)).f0.f0), .int .i64 ((rd_T41 l3 (rd l4 x16_1)).f0.f1), .int .i64 ((rd_T41 l3 (rd l4 x16_1)).f1), .int .i64 0, .slice none 0 0, .int .u32 0, .int .i64 0, .int .i64 0, .slice none 0 0, .slice none 0 0, .int .i64 0]) ?_ 3 _ rfl; (with_reducible repeat (first | refine blk_drewN ?_ _ | refine blk_drew ?_ | refine blk_alloc ?_ _)); refine blk_put (cs := #[.int .u32 ((rd_T41 l3 (rd l4 x16_1)).f0.f0), .int .i64 ((rd_T41 l3 (rd l4 x16_1)).f0.f1), .int .i64 0, .int .i64 0, .slice none 0 0, .int .u32 0, .int .i64 0, .int .i64 0, .slice none 0 0, .slice none 0 0, .int .i64 0]) ?_ 2 _ rfl; (with_reducible repeat (first | refine blk_drewN ?_ _ | refine blk_drew ?_ | refine blk_alloc ?_ _)); refine blk_put (cs := #[.int .u32 ((rd_T41 l3 (rd l4 x16_1)).f0.f0), .int .i64 0, .int .i64 0, .int .i64 0, .slice none 0 0, .int .u32 0, .int .i64 0, .int .i64 0, .slice none 0 0, .slice none 0 0, .int .i64 0]) ?_ 1 _ rfl; (with_reducible repeat (first | refine blk_drewN ?_ _ | refine blk_drew ?_ | refine blk_alloc ?_ _)); refine blk_put (cs := #[.int .u32 0, .int .i64 0, .int .i64 0, .int .i64 0, .slice none 0 0, .int .u32 0, .int .i64 0, .int .i64 0, .slice none 0 0, .slice none 0 0, .int .i64 0]) ?_ 0 _ rfl; (with_reducible repeat (first | refine blk_drewN ?_ _ | refine blk_drew ?_ | refine blk_alloc ?_ _)); exact BK150.out⟩
   have n2_ : Aside0 (Below w.heap.size w (((((((((((w43.setCell ⟨gb150, 0, none⟩ (.int .u32 ((rd_T41 l3 (rd l4 x16_1)).f0.f0))).setCell ⟨gb150, 1, none⟩ (.int .i64 ((rd_T41 l3 (rd l4 x16_1)).f0.f1))).setCell ⟨gb150, 2, none⟩ (.int .i64 ((rd_T41 l3 (rd l4 x16_1)).f1))).setCell ⟨gb150, 3, none⟩ (.int .i64 ((rd_T41 l3 (rd l4 x16_1)).f2.f0))).setCell ⟨gb150, 4, none⟩ (.slice A149_4 ((rd_T41 l3 (rd l4 x16_1)).f2.f1).length c149_4)).setCell ⟨gb150, 5, none⟩ (.int .u32 ((rd_T41 l3 (rd l4 x16_1)).f2.f2))).setCell ⟨gb150, 6, none⟩ (.int .i64 ((rd_T41 l3 (rd l4 x16_1)).f2.f3))).setCell ⟨gb150, 7, none⟩ (.int .i64 ((rd_T41 l3 (rd l4 x16_1)).f2.f4))).setCell ⟨gb150, 8, none⟩ (.slice A149_8 ((rd_T41 l3 (rd l4 x16_1)).f2.f5).length c149_8)).setCell ⟨gb150, 9, none⟩ (.slice A149_9 ((rd_T41 l3 (rd l4 x16_1)).f2.f6).length c149_9)).setCell ⟨gb150, 10, none⟩ (.int .i64 ((rd_T41 l3 (rd l4 x16_1)).f3)))) := ⟨by repeat (first | (with_reducible first | exact HB.out | apply below_alloc | apply pw_below_drewN | apply below_drew1 | refine below_set ?_ GE143.out | refine below_set ?_ GE150.out) | exact HB.out)⟩
   (try clear BK143)
   (try clear BK150)
   (try clear HB)
   generalize (((((((((((w43.setCell ⟨gb150, 0, none⟩ (.int .u32 ((rd_T41 l3 (rd l4 x16_1)).f0.f0))).setCell ⟨gb150, 1, none⟩ (.int .i64 ((rd_T41 l3 (rd l4 x16_1)).f0.f1))).setCell ⟨gb150, 2, none⟩ (.int .i64 ((rd_T41 l3 (rd l4 x16_1)).f1))).setCell ⟨gb150, 3, none⟩ (.int .i64 ((rd_T41 l3 (rd l4 x16_1)).f2.f0))).setCell ⟨gb150, 4, none⟩ (.slice A149_4 ((rd_T41 l3 (rd l4 x16_1)).f2.f1).length c149_4)).setCell ⟨gb150, 5, none⟩ (.int .u32 ((rd_T41 l3 (rd l4 x16_1)).f2.f2))).setCell ⟨gb150, 6, none⟩ (.int .i64 ((rd_T41 l3 (rd l4 x16_1)).f2.f3))).setCell ⟨gb150, 7, none⟩ (.int .i64 ((rd_T41 l3 (rd l4 x16_1)).f2.f4))).setCell ⟨gb150, 8, none⟩ (.slice A149_8 ((rd_T41 l3 (rd l4 x16_1)).f2.f5).length c149_8)).setCell ⟨gb150, 9, none⟩ (.slice A149_9 ((rd_T41 l3 (rd l4 x16_1)).f2.f6).length c149_9)).setCell ⟨gb150, 10, none⟩ (.int .i64 ((rd_T41 l3 (rd l4 x16_1)).f3))) = w59 at n0_ n1_ n2_ ⊢
   have BK143 := n0_
   have BK150 := n1_
   have HB := n2_
   clear n0_ n1_ n2_
   refine start_ (n := 18) (S := fun w' => True) (ds := []) #[F_,F_,F_,F_,F_,F_,F_,F_,F_,F_,F_,F_,F_,F_,F_,F_,F_,F_] (by kernel_rfl) rfl rfl trivial (fun hHeld => ?_); refine with_tabW interregnumref11_score.tab24 interregnumref11_score.bits24 (fun HT_ HW_ => ?_)
   refine pure_ (i := 0) (N := some 81) (v := ?_) (a' := ?_) #[T_,F_,F_,F_,F_,F_,F_,F_,F_,F_,F_,F_,F_,F_,F_,F_,F_,F_] rfl rfl (any_of HT_.out (by kernel_rfl)) (fun _ _ _ h => h) (Or.inl ⟨by rfl, ?_⟩) ?_ ?_
   rotate_left
   ·intro w'
    go_simp
    with_reducible rfl
   rotate_left
   ·simp only [Act.put, q1_, q2_, q3_, i64_w, i32_w]
    rfl
   refine pure_ (i := 1) (N := some 82) (v := ?_) (a' := ?_) #[T_,T_,F_,F_,F_,F_,F_,F_,F_,F_,F_,F_,F_,F_,F_,F_,F_,F_] rfl rfl (any_of HT_.out (by kernel_rfl)) (fun _ _ _ h => h) (Or.inl ⟨by rfl, ?_⟩) ?_ ?_
   rotate_left
   ·intro w'
    go_simp
    with_reducible rfl
   rotate_left
   ·simp only [Act.put, q1_, q2_, q3_, i64_w, i32_w]
    rfl
   refine pure_ (i := 2) (N := some 83) (v := undef) (a' := ?_) #[T_,T_,T_,F_,F_,F_,F_,F_,F_,F_,F_,F_,F_,F_,F_,F_,F_,F_] rfl rfl (any_of HT_.out (by kernel_rfl)) (fun _ _ _ h => h) (Or.inr ⟨by rfl, rfl⟩) ?_ ?_
   rotate_left
   ·simp only [Act.put, q1_, q2_, q3_, i64_w, i32_w]
    rfl
   refine pure_ (i := 3) (N := some 84) (v := ?_) (a' := ?_) #[T_,T_,T_,T_,F_,F_,F_,F_,F_,F_,F_,F_,F_,F_,F_,F_,F_,F_] rfl rfl (any_of HT_.out (by kernel_rfl)) (fun _ _ _ h => h) (Or.inl ⟨by rfl, ?_⟩) ?_ ?_
   rotate_left
   ·intro w'
    go_simp
    with_reducible rfl
   rotate_left
   ·simp only [Act.put, q1_, q2_, q3_, i64_w, i32_w]
    rfl
   refine pure_ (i := 4) (N := some 85) (v := ?_) (a' := ?_) #[T_,T_,T_,T_,T_,F_,F_,F_,F_,F_,F_,F_,F_,F_,F_,F_,F_,F_] rfl rfl (any_of HT_.out (by kernel_rfl)) (fun _ _ _ h => h) (Or.inl ⟨by rfl, ?_⟩) ?_ ?_
   rotate_left
   ·intro w'
    go_simp
    with_reducible rfl
   rotate_left
   ·simp only [Act.put, q1_, q2_, q3_, i64_w, i32_w]
    rfl
   refine pure_ (i := 5) (N := some 86) (v := undef) (a' := ?_) #[T_,T_,T_,T_,T_,T_,F_,F_,F_,F_,F_,F_,F_,F_,F_,F_,F_,F_] rfl rfl (any_of HT_.out (by kernel_rfl)) (fun _ _ _ h => h) (Or.inr ⟨by rfl, rfl⟩) ?_ ?_
   rotate_left
   ·simp only [Act.put, q1_, q2_, q3_, i64_w, i32_w]
    rfl
   refine pure_ (i := 6) (N := some 87) (v := undef) (a' := ?_) #[T_,T_,T_,T_,T_,T_,T_,F_,F_,F_,F_,F_,F_,F_,F_,F_,F_,F_] rfl rfl (any_of HT_.out (by kernel_rfl)) (fun _ _ _ h => h) (Or.inr ⟨by rfl, rfl⟩) ?_ ?_
   rotate_left
   ·simp only [Act.put, q1_, q2_, q3_, i64_w, i32_w]
    rfl
   refine pure_ (i := 7) (N := some 88) (v := undef) (a' := ?_) #[T_,T_,T_,T_,T_,T_,T_,T_,F_,F_,F_,F_,F_,F_,F_,F_,F_,F_] rfl rfl (any_of HT_.out (by kernel_rfl)) (fun _ _ _ h => h) (Or.inr ⟨by rfl, rfl⟩) ?_ ?_
   rotate_left
   ·simp only [Act.put, q1_, q2_, q3_, i64_w, i32_w]
    rfl
   refine pure_ (i := 8) (N := some 89) (v := ?_) (a' := ?_) #[T_,T_,T_,T_,T_,T_,T_,T_,T_,F_,F_,F_,F_,F_,F_,F_,F_,F_] rfl rfl (any_of HT_.out (by kernel_rfl)) (fun _ _ _ h => h) (Or.inl ⟨by rfl, ?_⟩) ?_ ?_
   rotate_left
   ·intro w'
    go_simp
    with_reducible rfl
   rotate_left
   ·simp only [Act.put, q1_, q2_, q3_, i64_w, i32_w]
    rfl
   refine pure_ (i := 9) (N := some 90) (v := ?_) (a' := ?_) #[T_,T_,T_,T_,T_,T_,T_,T_,T_,T_,F_,F_,F_,F_,F_,F_,F_,F_] rfl rfl (any_of HT_.out (by kernel_rfl)) (fun _ _ _ h => h) (Or.inl ⟨by rfl, ?_⟩) ?_ ?_
   rotate_left
   ·intro w'
    go_simp
    with_reducible rfl
   rotate_left
   ·simp only [Act.put, q1_, q2_, q3_, i64_w, i32_w]
    rfl
   refine pure_ (i := 10) (N := some 91) (v := undef) (a' := ?_) #[T_,T_,T_,T_,T_,T_,T_,T_,T_,T_,T_,F_,F_,F_,F_,F_,F_,F_] rfl rfl (any_of HT_.out (by kernel_rfl)) (fun _ _ _ h => h) (Or.inr ⟨by rfl, rfl⟩) ?_ ?_
   rotate_left
   ·simp only [Act.put, q1_, q2_, q3_, i64_w, i32_w]
    rfl
   refine pure_ (i := 11) (N := some 92) (v := undef) (a' := ?_) #[T_,T_,T_,T_,T_,T_,T_,T_,T_,T_,T_,T_,F_,F_,F_,F_,F_,F_] rfl rfl (any_of HT_.out (by kernel_rfl)) (fun _ _ _ h => h) (Or.inr ⟨by rfl, rfl⟩) ?_ ?_
   rotate_left
   ·simp only [Act.put, q1_, q2_, q3_, i64_w, i32_w]
    rfl
   refine pure_ (i := 12) (N := some 93) (v := undef) (a' := ?_) #[T_,T_,T_,T_,T_,T_,T_,T_,T_,T_,T_,T_,T_,F_,F_,F_,F_,F_] rfl rfl (any_of HT_.out (by kernel_rfl)) (fun _ _ _ h => h) (Or.inr ⟨by rfl, rfl⟩) ?_ ?_
   rotate_left
   ·simp only [Act.put, q1_, q2_, q3_, i64_w, i32_w]
    rfl
   refine pure_ (i := 13) (N := some 94) (v := undef) (a' := ?_) #[T_,T_,T_,T_,T_,T_,T_,T_,T_,T_,T_,T_,T_,T_,F_,F_,F_,F_] rfl rfl (any_of HT_.out (by kernel_rfl)) (fun _ _ _ h => h) (Or.inr ⟨by rfl, rfl⟩) ?_ ?_
   rotate_left
   ·simp only [Act.put, q1_, q2_, q3_, i64_w, i32_w]
    rfl
   refine pure_ (i := 14) (N := some 95) (v := undef) (a' := ?_) #[T_,T_,T_,T_,T_,T_,T_,T_,T_,T_,T_,T_,T_,T_,T_,F_,F_,F_] rfl rfl (any_of HT_.out (by kernel_rfl)) (fun _ _ _ h => h) (Or.inr ⟨by rfl, rfl⟩) ?_ ?_
   rotate_left
   ·simp only [Act.put, q1_, q2_, q3_, i64_w, i32_w]
    rfl
   refine pure_ (i := 15) (N := some 96) (v := undef) (a' := ?_) #[T_,T_,T_,T_,T_,T_,T_,T_,T_,T_,T_,T_,T_,T_,T_,T_,F_,F_] rfl rfl (any_of HT_.out (by kernel_rfl)) (fun _ _ _ h => h) (Or.inr ⟨by rfl, rfl⟩) ?_ ?_
   rotate_left
   ·simp only [Act.put, q1_, q2_, q3_, i64_w, i32_w]
    rfl
   refine pure_ (i := 16) (N := some 97) (v := undef) (a' := ?_) #[T_,T_,T_,T_,T_,T_,T_,T_,T_,T_,T_,T_,T_,T_,T_,T_,T_,F_] rfl rfl (any_of HT_.out (by kernel_rfl)) (fun _ _ _ h => h) (Or.inr ⟨by rfl, rfl⟩) ?_ ?_
   rotate_left
   ·simp only [Act.put, q1_, q2_, q3_, i64_w, i32_w]
    rfl
   refine pure_ (i := 17) (N := some 98) (v := ?_) (a' := ?_) #[T_,T_,T_,T_,T_,T_,T_,T_,T_,T_,T_,T_,T_,T_,T_,T_,T_,T_] rfl rfl (any_of HT_.out (by kernel_rfl)) (fun _ _ _ h => h) (Or.inl ⟨by rfl, ?_⟩) ?_ ?_
   rotate_left
   ·intro w'
    go_simp
    with_reducible rfl
   rotate_left
   ·simp only [Act.put, q1_, q2_, q3_, i64_w, i32_w]
    rfl
   refine done_ (done_of HT_.out (by kernel_rfl)) ?_
   try go_wp2
   go_meet
   case rel => exact ⟨_, (false), (by first | rfl | (simp; done) | (simp [*]; done)), H', ⟨by have := HK1.out; first | omega | exact Nat.le_refl _⟩, ⟨by (with_reducible repeat (first | refine blk_drewN ?_ _ | refine blk_drew ?_ | refine blk_alloc ?_ _)); exact BK143.out⟩, ⟨by (with_reducible repeat (first | refine blk_drewN ?_ _ | refine blk_drew ?_ | refine blk_alloc ?_ _)); exact BK150.out⟩, ⟨by repeat (first | (with_reducible first | exact HB.out | apply below_alloc | apply pw_below_drewN | apply below_drew1 | refine below_set ?_ GE143.out | refine below_set ?_ GE150.out) | exact HB.out)⟩⟩
  subst c46
  have H1 : (if t152 = true then (if t146 = t151 then ((interregnumref11_med.f ((rd_T41 l3 (rd l4 x16_1)).f2.f0) ((rd_T41 l3 (rd l4 x16_1)).f2.f1) ((rd_T41 l3 (rd l4 x16_1)).f2.f2) ((rd_T41 l3 (rd l4 x16_1)).f2.f3) ((rd_T41 l3 (rd l4 x16_1)).f2.f4) ((rd_T41 l3 (rd l4 x16_1)).f2.f5) ((rd_T41 l3 (rd l4 x16_1)).f2.f6)).bind fun t153 => ((interregnumref11_med.f ((rd_T41 l3 a5).f2.f0) ((rd_T41 l3 a5).f2.f1) ((rd_T41 l3 a5).f2.f2) ((rd_T41 l3 a5).f2.f3) ((rd_T41 l3 a5).f2.f4) ((rd_T41 l3 a5).f2.f5) ((rd_T41 l3 a5).f2.f6)).bind fun t154 => (interregnumref11_score.j1 k1 l3 l4 t146 true x16_1 (decide (t153 < t154)) ((rd_T41 l3 a5).f0.f0) ((rd_T41 l3 a5).f0.f1) ((rd_T41 l3 a5).f1) ((rd_T41 l3 a5).f2.f0) ((rd_T41 l3 a5).f2.f1) ((rd_T41 l3 a5).f2.f2) ((rd_T41 l3 a5).f2.f3) ((rd_T41 l3 a5).f2.f4) ((rd_T41 l3 a5).f2.f5) ((rd_T41 l3 a5).f2.f6) ((rd_T41 l3 a5).f3)))) else (interregnumref11_score.j1 k1 l3 l4 t146 true x16_1 false ((rd_T41 l3 a5).f0.f0) ((rd_T41 l3 a5).f0.f1) ((rd_T41 l3 a5).f1) ((rd_T41 l3 a5).f2.f0) ((rd_T41 l3 a5).f2.f1) ((rd_T41 l3 a5).f2.f2) ((rd_T41 l3 a5).f2.f3) ((rd_T41 l3 a5).f2.f4) ((rd_T41 l3 a5).f2.f5) ((rd_T41 l3 a5).f2.f6) ((rd_T41 l3 a5).f3))) else (interregnumref11_score.j1 k1 l3 l4 t146 true x16_1 false ((rd_T41 l3 a5).f0.f0) ((rd_T41 l3 a5).f0.f1) ((rd_T41 l3 a5).f1) ((rd_T41 l3 a5).f2.f0) ((rd_T41 l3 a5).f2.f1) ((rd_T41 l3 a5).f2.f2) ((rd_T41 l3 a5).f2.f3) ((rd_T41 l3 a5).f2.f4) ((rd_T41 l3 a5).f2.f5) ((rd_T41 l3 a5).f2.f6) ((rd_T41 l3 a5).f3))) = some r := by rw [if_pos rfl] at H; exact H
  clear H
  have H := H1
  clear H1
  by_cases c47 : t152 = true
  rotate_left
  ·replace c47 := Bool.eq_false_iff.mpr c47
   subst c47
   have H1 : (interregnumref11_score.j1 k1 l3 l4 t146 true x16_1 false ((rd_T41 l3 a5).f0.f0) ((rd_T41 l3 a5).f0.f1) ((rd_T41 l3 a5).f1) ((rd_T41 l3 a5).f2.f0) ((rd_T41 l3 a5).f2.f1) ((rd_T41 l3 a5).f2.f2) ((rd_T41 l3 a5).f2.f3) ((rd_T41 l3 a5).f2.f4) ((rd_T41 l3 a5).f2.f5) ((rd_T41 l3 a5).f2.f6) ((rd_T41 l3 a5).f3)) = some r := by rw [if_neg (show ¬ (false = true) by decide)] at H; exact H
   clear H
   have H := H1
   clear H1
   have H' := Aside0.mk H
   clear H
   try go_wp2
   have n0_ : Aside0 ((((((((((((w43.setCell ⟨gb150, 0, none⟩ (.int .u32 ((rd_T41 l3 (rd l4 x16_1)).f0.f0))).setCell ⟨gb150, 1, none⟩ (.int .i64 ((rd_T41 l3 (rd l4 x16_1)).f0.f1))).setCell ⟨gb150, 2, none⟩ (.int .i64 ((rd_T41 l3 (rd l4 x16_1)).f1))).setCell ⟨gb150, 3, none⟩ (.int .i64 ((rd_T41 l3 (rd l4 x16_1)).f2.f0))).setCell ⟨gb150, 4, none⟩ (.slice A149_4 ((rd_T41 l3 (rd l4 x16_1)).f2.f1).length c149_4)).setCell ⟨gb150, 5, none⟩ (.int .u32 ((rd_T41 l3 (rd l4 x16_1)).f2.f2))).setCell ⟨gb150, 6, none⟩ (.int .i64 ((rd_T41 l3 (rd l4 x16_1)).f2.f3))).setCell ⟨gb150, 7, none⟩ (.int .i64 ((rd_T41 l3 (rd l4 x16_1)).f2.f4))).setCell ⟨gb150, 8, none⟩ (.slice A149_8 ((rd_T41 l3 (rd l4 x16_1)).f2.f5).length c149_8)).setCell ⟨gb150, 9, none⟩ (.slice A149_9 ((rd_T41 l3 (rd l4 x16_1)).f2.f6).length c149_9)).setCell ⟨gb150, 10, none⟩ (.int .i64 ((rd_T41 l3 (rd l4 x16_1)).f3))).heap[gb143]? = some (.cells #[.int .u32 ((rd_T41 l3 a5).f0.f0), .int .i64 ((rd_T41 l3 a5).f0.f1), .int .i64 ((rd_T41 l3 a5).f1), .int .i64 ((rd_T41 l3 a5).f2.f0), .slice A142_4 ((rd_T41 l3 a5).f2.f1).length c142_4, .int .u32 ((rd_T41 l3 a5).f2.f2), .int .i64 ((rd_T41 l3 a5).f2.f3), .int .i64 ((rd_T41 l3 a5).f2.f4), .slice A142_8 ((rd_T41 l3 a5).f2.f5).length c142_8, .slice A142_9 ((rd_T41 l3 a5).f2.f6).length c142_9, .int .i64 ((rd_T41 l3 a5).f3)] 41 (0, 0))) := ⟨by (with_reducible repeat (first | refine blk_drewN ?_ _ | refine blk_drew ?_ | refine blk_alloc ?_ _)); refine blk_far ?_ NB143_150.out _; (with_reducible repeat (first | refine blk_drewN ?_ _ | refine blk_drew ?_ | refine blk_alloc ?_ _)); refine blk_far ?_ NB143_150.out _; (with_reducible repeat (first | refine blk_drewN ?_ _ | refine blk_drew ?_ | refine blk_alloc ?_ _)); refine blk_far ?_ NB143_150.out _; (with_reducible repeat (first | refine blk_drewN ?_ _ | refine blk_drew ?_ | refine blk_alloc ?_ _)); refine blk_far ?_ NB143_150.out _; (with_reducible repeat (first | refine blk_drewN ?_ _ | refine blk_drew ?_ | refine blk_alloc ?_ _)); refine blk_far ?_ NB143_150.out _; (with_reducible repeat (first | refine blk_drewN ?_ _ | refine blk_drew ?_ | refine blk_alloc ?_ _)); refine blk_far ?_ NB143_150.out _; (with_reducible repeat (first | refine blk_drewN ?_ _ | refine blk_drew ?_ | refine blk_alloc ?_ _)); refine blk_far ?_ NB143_150.out _; (with_reducible repeat (first | refine blk_drewN ?_ _ | refine blk_drew ?_ | refine blk_alloc ?_ _)); refine blk_far ?_ NB143_150.out _; (with_reducible repeat (first | refine blk_drewN ?_ _ | refine blk_drew ?_ | refine blk_alloc ?_ _)); refine blk_far ?_ NB143_150.out _; (with_reducible repeat (first | refine blk_drewN ?_ _ | refine blk_drew ?_ | refine blk_alloc ?_ _)); refine blk_far ?_ NB143_150.out _; (with_reducible repeat (first | refine blk_drewN ?_ _ | refine blk_drew ?_ | refine blk_alloc ?_ _)); refine blk_far ?_ NB143_150.out _; (with_reducible repeat (first | refine blk_drewN ?_ _ | refine blk_drew ?_ | refine blk_alloc ?_ _)); exact BK143.out⟩
   have n1_ : Aside0 ((((((((((((w43.setCell ⟨gb150, 0, none⟩ (.int .u32 ((rd_T41 l3 (rd l4 x16_1)).f0.f0))).setCell ⟨gb150, 1, none⟩ (.int .i64 ((rd_T41 l3 (rd l4 x16_1)).f0.f1))).setCell ⟨gb150, 2, none⟩ (.int .i64 ((rd_T41 l3 (rd l4 x16_1)).f1))).setCell ⟨gb150, 3, none⟩ (.int .i64 ((rd_T41 l3 (rd l4 x16_1)).f2.f0))).setCell ⟨gb150, 4, none⟩ (.slice A149_4 ((rd_T41 l3 (rd l4 x16_1)).f2.f1).length c149_4)).setCell ⟨gb150, 5, none⟩ (.int .u32 ((rd_T41 l3 (rd l4 x16_1)).f2.f2))).setCell ⟨gb150, 6, none⟩ (.int .i64 ((rd_T41 l3 (rd l4 x16_1)).f2.f3))).setCell ⟨gb150, 7, none⟩ (.int .i64 ((rd_T41 l3 (rd l4 x16_1)).f2.f4))).setCell ⟨gb150, 8, none⟩ (.slice A149_8 ((rd_T41 l3 (rd l4 x16_1)).f2.f5).length c149_8)).setCell ⟨gb150, 9, none⟩ (.slice A149_9 ((rd_T41 l3 (rd l4 x16_1)).f2.f6).length c149_9)).setCell ⟨gb150, 10, none⟩ (.int .i64 ((rd_T41 l3 (rd l4 x16_1)).f3))).heap[gb150]? = some (.cells #[.int .u32 ((rd_T41 l3 (rd l4 x16_1)).f0.f0), .int .i64 ((rd_T41 l3 (rd l4 x16_1)).f0.f1), .int .i64 ((rd_T41 l3 (rd l4 x16_1)).f1), .int .i64 ((rd_T41 l3 (rd l4 x16_1)).f2.f0), .slice A149_4 ((rd_T41 l3 (rd l4 x16_1)).f2.f1).length c149_4, .int .u32 ((rd_T41 l3 (rd l4 x16_1)).f2.f2), .int .i64 ((rd_T41 l3 (rd l4 x16_1)).f2.f3), .int .i64 ((rd_T41 l3 (rd l4 x16_1)).f2.f4), .slice A149_8 ((rd_T41 l3 (rd l4 x16_1)).f2.f5).length c149_8, .slice A149_9 ((rd_T41 l3 (rd l4 x16_1)).f2.f6).length c149_9, .int .i64 ((rd_T41 l3 (rd l4 x16_1)).f3)] 41 (0, 0))) := ⟨by (with_reducible repeat (first | refine blk_drewN ?_ _ | refine blk_drew ?_ | refine blk_alloc ?_ _)); refine blk_put (cs := #[.int .u32 ((rd_T41 l3 (rd l4 x16_1)).f0.f0), .int .i64 ((rd_T41 l3 (rd l4 x16_1)).f0.f1), .int .i64 ((rd_T41 l3 (rd l4 x16_1)).f1), .int .i64 ((rd_T41 l3 (rd l4 x16_1)).f2.f0), .slice A149_4 ((rd_T41 l3 (rd l4 x16_1)).f2.f1).length c149_4, .int .u32 ((rd_T41 l3 (rd l4 x16_1)).f2.f2), .int .i64 ((rd_T41 l3 (rd l4 x16_1)).f2.f3), .int .i64 ((rd_T41 l3 (rd l4 x16_1)).f2.f4), .slice A149_8 ((rd_T41 l3 (rd l4 x16_1)).f2.f5).length c149_8, .slice A149_9 ((rd_T41 l3 (rd l4 x16_1)).f2.f6).length c149_9, .int .i64 0]) ?_ 10 _ rfl; (with_reducible repeat (first | refine blk_drewN ?_ _ | refine blk_drew ?_ | refine blk_alloc ?_ _)); refine blk_put (cs := #[.int .u32 ((rd_T41 l3 (rd l4 x16_1)).f0.f0), .int .i64 ((rd_T41 l3 (rd l4 x16_1)).f0.f1), .int .i64 ((rd_T41 l3 (rd l4 x16_1)).f1), .int .i64 ((rd_T41 l3 (rd l4 x16_1)).f2.f0), .slice A149_4 ((rd_T41 l3 (rd l4 x16_1)).f2.f1).length c149_4, .int .u32 ((rd_T41 l3 (rd l4 x16_1)).f2.f2), .int .i64 ((rd_T41 l3 (rd l4 x16_1)).f2.f3), .int .i64 ((rd_T41 l3 (rd l4 x16_1)).f2.f4), .slice A149_8 ((rd_T41 l3 (rd l4 x16_1)).f2.f5).length c149_8, .slice none 0 0, .int .i64 0]) ?_ 9 _ rfl; (with_reducible repeat (first | refine blk_drewN ?_ _ | refine blk_drew ?_ | refine blk_alloc ?_ _)); refine blk_put (cs := #[.int .u32 ((rd_T41 l3 (rd l4 x16_1)).f0.f0), .int .i64 ((rd_T41 l3 (rd l4 x16_1)).f0.f1), .int .i64 ((rd_T41 l3 (rd l4 x16_1)).f1), .int .i64 ((rd_T41 l3 (rd l4 x16_1)).f2.f0), .slice A149_4 ((rd_T41 l3 (rd l4 x16_1)).f2.f1).length c149_4, .int .u32 ((rd_T41 l3 (rd l4 x16_1)).f2.f2), .int .i64 ((rd_T41 l3 (rd l4 x16_1)).f2.f3), .int .i64 ((rd_T41 l3 (rd l4 x16_1)).f2.f4), .slice none 0 0, .slice none 0 0, .int .i64 0]) ?_ 8 _ rfl; (with_reducible repeat (first | refine blk_drewN ?_ _ | refine blk_drew ?_ | refine blk_alloc ?_ _)); refine blk_put (cs := #[.int .u32 ((rd_T41 l3 (rd l4 x16_1)).f0.f0), .int .i64 ((rd_T41 l3 (rd l4 x16_1)).f0.f1), .int .i64 ((rd_T41 l3 (rd l4 x16_1)).f1), .int .i64 ((rd_T41 l3 (rd l4 x16_1)).f2.f0), .slice A149_4 ((rd_T41 l3 (rd l4 x16_1)).f2.f1).length c149_4, .int .u32 ((rd_T41 l3 (rd l4 x16_1)).f2.f2), .int .i64 ((rd_T41 l3 (rd l4 x16_1)).f2.f3), .int .i64 0, .slice none 0 0, .slice none 0 0, .int .i64 0]) ?_ 7 _ rfl; (with_reducible repeat (first | refine blk_drewN ?_ _ | refine blk_drew ?_ | refine blk_alloc ?_ _)); refine blk_put (cs := #[.int .u32 ((rd_T41 l3 (rd l4 x16_1)).f0.f0), .int .i64 ((rd_T41 l3 (rd l4 x16_1)).f0.f1), .int .i64 ((rd_T41 l3 (rd l4 x16_1)).f1), .int .i64 ((rd_T41 l3 (rd l4 x16_1)).f2.f0), .slice A149_4 ((rd_T41 l3 (rd l4 x16_1)).f2.f1).length c149_4, .int .u32 ((rd_T41 l3 (rd l4 x16_1)).f2.f2), .int .i64 0, .int .i64 0, .slice none 0 0, .slice none 0 0, .int .i64 0]) ?_ 6 _ rfl; (with_reducible repeat (first | refine blk_drewN ?_ _ | refine blk_drew ?_ | refine blk_alloc ?_ _)); refine blk_put (cs := #[.int .u32 ((rd_T41 l3 (rd l4 x16_1)).f0.f0), .int .i64 ((rd_T41 l3 (rd l4 x16_1)).f0.f1), .int .i64 ((rd_T41 l3 (rd l4 x16_1)).f1), .int .i64 ((rd_T41 l3 (rd l4 x16_1)).f2.f0), .slice A149_4 ((rd_T41 l3 (rd l4 x16_1)).f2.f1).length c149_4, .int .u32 0, .int .i64 0, .int .i64 0, .slice none 0 0, .slice none 0 0, .int .i64 0]) ?_ 5 _ rfl; (with_reducible repeat (first | refine blk_drewN ?_ _ | refine blk_drew ?_ | refine blk_alloc ?_ _)); refine blk_put (cs := #[.int .u32 ((rd_T41 l3 (rd l4 x16_1)).f0.f0), .int .i64 ((rd_T41 l3 (rd l4 x16_1)).f0.f1), .int .i64 ((rd_T41 l3 (rd l4 x16_1)).f1), .int .i64 ((rd_T41 l3 (rd l4 x16_1)).f2.f0), .slice none 0 0, .int .u32 0, .int .i64 0, .int .i64 0, .slice none 0 0, .slice none 0 0, .int .i64 0]) ?_ 4 _ rfl; (with_reducible repeat (first | refine blk_drewN ?_ _ | refine blk_drew ?_ | refine blk_alloc ?_ _)); refine blk_put (cs := #[.int .u32 ((rd_T41 l3 (rd l4 x16_1)).f0.f0), .int .i64 ((rd_T41 l3 (rd l4 x16_1)).f0.f1), .int .i64 ((rd_T41 l3 (rd l4 x16_1)).f1), .int .i64 0, .slice none 0 0, .int .u32 0, .int .i64 0, .int .i64 0, .slice none 0 0, .slice none 0 0, .int .i64 0]) ?_ 3 _ rfl; (with_reducible repeat (first | refine blk_drewN ?_ _ | refine blk_drew ?_ | refine blk_alloc ?_ _)); refine blk_put (cs := #[.int .u32 ((rd_T41 l3 (rd l4 x16_1)).f0.f0), .int .i64 ((rd_T41 l3 (rd l4 x16_1)).f0.f1), .int .i64 0, .int .i64 0, .slice none 0 0, .int .u32 0, .int .i64 0, .int .i64 0, .slice none 0 0, .slice none 0 0, .int .i64 0]) ?_ 2 _ rfl; (with_reducible repeat (first | refine blk_drewN ?_ _ | refine blk_drew ?_ | refine blk_alloc ?_ _)); refine blk_put (cs := #[.int .u32 ((rd_T41 l3 (rd l4 x16_1)).f0.f0), .int .i64 0, .int .i64 0, .int .i64 0, .slice none 0 0, .int .u32 0, .int .i64 0, .int .i64 0, .slice none 0 0, .slice none 0 0, .int .i64 0]) ?_ 1 _ rfl; (with_reducible repeat (first | refine blk_drewN ?_ _ | refine blk_drew ?_ | refine blk_alloc ?_ _)); refine blk_put (cs := #[.int .u32 0, .int .i64 0, .int .i64 0, .int .i64 0, .slice none 0 0, .int .u32 0, .int .i64 0, .int .i64 0, .slice none 0 0, .slice none 0 0, .int .i64 0]) ?_ 0 _ rfl; (with_reducible repeat (first | refine blk_drewN ?_ _ | refine blk_drew ?_ | refine blk_alloc ?_ _)); exact BK150.out⟩
   have n2_ : Aside0 (Below w.heap.size w (((((((((((w43.setCell ⟨gb150, 0, none⟩ (.int .u32 ((rd_T41 l3 (rd l4 x16_1)).f0.f0))).setCell ⟨gb150, 1, none⟩ (.int .i64 ((rd_T41 l3 (rd l4 x16_1)).f0.f1))).setCell ⟨gb150, 2, none⟩ (.int .i64 ((rd_T41 l3 (rd l4 x16_1)).f1))).setCell ⟨gb150, 3, none⟩ (.int .i64 ((rd_T41 l3 (rd l4 x16_1)).f2.f0))).setCell ⟨gb150, 4, none⟩ (.slice A149_4 ((rd_T41 l3 (rd l4 x16_1)).f2.f1).length c149_4)).setCell ⟨gb150, 5, none⟩ (.int .u32 ((rd_T41 l3 (rd l4 x16_1)).f2.f2))).setCell ⟨gb150, 6, none⟩ (.int .i64 ((rd_T41 l3 (rd l4 x16_1)).f2.f3))).setCell ⟨gb150, 7, none⟩ (.int .i64 ((rd_T41 l3 (rd l4 x16_1)).f2.f4))).setCell ⟨gb150, 8, none⟩ (.slice A149_8 ((rd_T41 l3 (rd l4 x16_1)).f2.f5).length c149_8)).setCell ⟨gb150, 9, none⟩ (.slice A149_9 ((rd_T41 l3 (rd l4 x16_1)).f2.f6).length c149_9)).setCell ⟨gb150, 10, none⟩ (.int .i64 ((rd_T41 l3 (rd l4 x16_1)).f3)))) := ⟨by repeat (first | (with_reducible first | exact HB.out | apply below_alloc | apply pw_below_drewN | apply below_drew1 | refine below_set ?_ GE143.out | refine below_set ?_ GE150.out) | exact HB.out)⟩
   (try clear BK143)
   (try clear BK150)
   (try clear HB)
   generalize (((((((((((w43.setCell ⟨gb150, 0, none⟩ (.int .u32 ((rd_T41 l3 (rd l4 x16_1)).f0.f0))).setCell ⟨gb150, 1, none⟩ (.int .i64 ((rd_T41 l3 (rd l4 x16_1)).f0.f1))).setCell ⟨gb150, 2, none⟩ (.int .i64 ((rd_T41 l3 (rd l4 x16_1)).f1))).setCell ⟨gb150, 3, none⟩ (.int .i64 ((rd_T41 l3 (rd l4 x16_1)).f2.f0))).setCell ⟨gb150, 4, none⟩ (.slice A149_4 ((rd_T41 l3 (rd l4 x16_1)).f2.f1).length c149_4)).setCell ⟨gb150, 5, none⟩ (.int .u32 ((rd_T41 l3 (rd l4 x16_1)).f2.f2))).setCell ⟨gb150, 6, none⟩ (.int .i64 ((rd_T41 l3 (rd l4 x16_1)).f2.f3))).setCell ⟨gb150, 7, none⟩ (.int .i64 ((rd_T41 l3 (rd l4 x16_1)).f2.f4))).setCell ⟨gb150, 8, none⟩ (.slice A149_8 ((rd_T41 l3 (rd l4 x16_1)).f2.f5).length c149_8)).setCell ⟨gb150, 9, none⟩ (.slice A149_9 ((rd_T41 l3 (rd l4 x16_1)).f2.f6).length c149_9)).setCell ⟨gb150, 10, none⟩ (.int .i64 ((rd_T41 l3 (rd l4 x16_1)).f3))) = w57 at n0_ n1_ n2_ ⊢
   have BK143 := n0_
   have BK150 := n1_
   have HB := n2_
   clear n0_ n1_ n2_
   refine start_ (n := 18) (S := fun w' => True) (ds := []) #[F_,F_,F_,F_,F_,F_,F_,F_,F_,F_,F_,F_,F_,F_,F_,F_,F_,F_] (by kernel_rfl) rfl rfl trivial (fun hHeld => ?_); refine with_tabW interregnumref11_score.tab24 interregnumref11_score.bits24 (fun HT_ HW_ => ?_)
   refine pure_ (i := 0) (N := some 81) (v := ?_) (a' := ?_) #[T_,F_,F_,F_,F_,F_,F_,F_,F_,F_,F_,F_,F_,F_,F_,F_,F_,F_] rfl rfl (any_of HT_.out (by kernel_rfl)) (fun _ _ _ h => h) (Or.inl ⟨by rfl, ?_⟩) ?_ ?_
   rotate_left
   ·intro w'
    go_simp
    with_reducible rfl
   rotate_left
   ·simp only [Act.put, q1_, q2_, q3_, i64_w, i32_w]
    rfl
   refine pure_ (i := 1) (N := some 82) (v := ?_) (a' := ?_) #[T_,T_,F_,F_,F_,F_,F_,F_,F_,F_,F_,F_,F_,F_,F_,F_,F_,F_] rfl rfl (any_of HT_.out (by kernel_rfl)) (fun _ _ _ h => h) (Or.inl ⟨by rfl, ?_⟩) ?_ ?_
   rotate_left
   ·intro w'
    go_simp
    with_reducible rfl
   rotate_left
   ·simp only [Act.put, q1_, q2_, q3_, i64_w, i32_w]
    rfl
   refine pure_ (i := 2) (N := some 83) (v := ?_) (a' := ?_) #[T_,T_,T_,F_,F_,F_,F_,F_,F_,F_,F_,F_,F_,F_,F_,F_,F_,F_] rfl rfl (any_of HT_.out (by kernel_rfl)) (fun _ _ _ h => h) (Or.inl ⟨by rfl, ?_⟩) ?_ ?_
   rotate_left
   ·intro w'
    go_simp
    with_reducible rfl
   rotate_left
   ·simp only [Act.put, q1_, q2_, q3_, i64_w, i32_w]
    rfl
   refine pure_ (i := 3) (N := some 84) (v := ?_) (a' := ?_) #[T_,T_,T_,T_,F_,F_,F_,F_,F_,F_,F_,F_,F_,F_,F_,F_,F_,F_] rfl rfl (any_of HT_.out (by kernel_rfl)) (fun _ _ _ h => h) (Or.inl ⟨by rfl, ?_⟩) ?_ ?_
   rotate_left
   ·intro w'
    go_simp
    with_reducible rfl
   rotate_left
   ·simp only [Act.put, q1_, q2_, q3_, i64_w, i32_w]
    rfl
   refine pure_ (i := 4) (N := some 85) (v := ?_) (a' := ?_) #[T_,T_,T_,T_,T_,F_,F_,F_,F_,F_,F_,F_,F_,F_,F_,F_,F_,F_] rfl rfl (any_of HT_.out (by kernel_rfl)) (fun _ _ _ h => h) (Or.inl ⟨by rfl, ?_⟩) ?_ ?_
   rotate_left
   ·intro w'
    go_simp
    with_reducible rfl
   rotate_left
   ·simp only [Act.put, q1_, q2_, q3_, i64_w, i32_w]
    rfl
   refine pure_ (i := 5) (N := some 86) (v := undef) (a' := ?_) #[T_,T_,T_,T_,T_,T_,F_,F_,F_,F_,F_,F_,F_,F_,F_,F_,F_,F_] rfl rfl (any_of HT_.out (by kernel_rfl)) (fun _ _ _ h => h) (Or.inr ⟨by rfl, rfl⟩) ?_ ?_
   rotate_left
   ·simp only [Act.put, q1_, q2_, q3_, i64_w, i32_w]
    rfl
   refine pure_ (i := 6) (N := some 87) (v := undef) (a' := ?_) #[T_,T_,T_,T_,T_,T_,T_,F_,F_,F_,F_,F_,F_,F_,F_,F_,F_,F_] rfl rfl (any_of HT_.out (by kernel_rfl)) (fun _ _ _ h => h) (Or.inr ⟨by rfl, rfl⟩) ?_ ?_
   rotate_left
   ·simp only [Act.put, q1_, q2_, q3_, i64_w, i32_w]
    rfl
   refine pure_ (i := 7) (N := some 88) (v := undef) (a' := ?_) #[T_,T_,T_,T_,T_,T_,T_,T_,F_,F_,F_,F_,F_,F_,F_,F_,F_,F_] rfl rfl (any_of HT_.out (by kernel_rfl)) (fun _ _ _ h => h) (Or.inr ⟨by rfl, rfl⟩) ?_ ?_
   rotate_left
   ·simp only [Act.put, q1_, q2_, q3_, i64_w, i32_w]
    rfl
   refine pure_ (i := 8) (N := some 89) (v := ?_) (a' := ?_) #[T_,T_,T_,T_,T_,T_,T_,T_,T_,F_,F_,F_,F_,F_,F_,F_,F_,F_] rfl rfl (any_of HT_.out (by kernel_rfl)) (fun _ _ _ h => h) (Or.inl ⟨by rfl, ?_⟩) ?_ ?_
   rotate_left
   ·intro w'
    go_simp
    with_reducible rfl
   rotate_left
   ·simp only [Act.put, q1_, q2_, q3_, i64_w, i32_w]
    rfl
   refine pure_ (i := 9) (N := some 90) (v := ?_) (a' := ?_) #[T_,T_,T_,T_,T_,T_,T_,T_,T_,T_,F_,F_,F_,F_,F_,F_,F_,F_] rfl rfl (any_of HT_.out (by kernel_rfl)) (fun _ _ _ h => h) (Or.inl ⟨by rfl, ?_⟩) ?_ ?_
   rotate_left
   ·intro w'
    go_simp
    with_reducible rfl
   rotate_left
   ·simp only [Act.put, q1_, q2_, q3_, i64_w, i32_w]
    rfl
   refine pure_ (i := 10) (N := some 91) (v := undef) (a' := ?_) #[T_,T_,T_,T_,T_,T_,T_,T_,T_,T_,T_,F_,F_,F_,F_,F_,F_,F_] rfl rfl (any_of HT_.out (by kernel_rfl)) (fun _ _ _ h => h) (Or.inr ⟨by rfl, rfl⟩) ?_ ?_
   rotate_left
   ·simp only [Act.put, q1_, q2_, q3_, i64_w, i32_w]
    rfl
   refine pure_ (i := 11) (N := some 92) (v := undef) (a' := ?_) #[T_,T_,T_,T_,T_,T_,T_,T_,T_,T_,T_,T_,F_,F_,F_,F_,F_,F_] rfl rfl (any_of HT_.out (by kernel_rfl)) (fun _ _ _ h => h) (Or.inr ⟨by rfl, rfl⟩) ?_ ?_
   rotate_left
   ·simp only [Act.put, q1_, q2_, q3_, i64_w, i32_w]
    rfl
   refine pure_ (i := 12) (N := some 93) (v := undef) (a' := ?_) #[T_,T_,T_,T_,T_,T_,T_,T_,T_,T_,T_,T_,T_,F_,F_,F_,F_,F_] rfl rfl (any_of HT_.out (by kernel_rfl)) (fun _ _ _ h => h) (Or.inr ⟨by rfl, rfl⟩) ?_ ?_
   rotate_left
   ·simp only [Act.put, q1_, q2_, q3_, i64_w, i32_w]
    rfl
   refine pure_ (i := 13) (N := some 94) (v := undef) (a' := ?_) #[T_,T_,T_,T_,T_,T_,T_,T_,T_,T_,T_,T_,T_,T_,F_,F_,F_,F_] rfl rfl (any_of HT_.out (by kernel_rfl)) (fun _ _ _ h => h) (Or.inr ⟨by rfl, rfl⟩) ?_ ?_
   rotate_left
   ·simp only [Act.put, q1_, q2_, q3_, i64_w, i32_w]
    rfl
   refine pure_ (i := 14) (N := some 95) (v := undef) (a' := ?_) #[T_,T_,T_,T_,T_,T_,T_,T_,T_,T_,T_,T_,T_,T_,T_,F_,F_,F_] rfl rfl (any_of HT_.out (by kernel_rfl)) (fun _ _ _ h => h) (Or.inr ⟨by rfl, rfl⟩) ?_ ?_
   rotate_left
   ·simp only [Act.put, q1_, q2_, q3_, i64_w, i32_w]
    rfl
   refine pure_ (i := 15) (N := some 96) (v := undef) (a' := ?_) #[T_,T_,T_,T_,T_,T_,T_,T_,T_,T_,T_,T_,T_,T_,T_,T_,F_,F_] rfl rfl (any_of HT_.out (by kernel_rfl)) (fun _ _ _ h => h) (Or.inr ⟨by rfl, rfl⟩) ?_ ?_
   rotate_left
   ·simp only [Act.put, q1_, q2_, q3_, i64_w, i32_w]
    rfl
   refine pure_ (i := 16) (N := some 97) (v := undef) (a' := ?_) #[T_,T_,T_,T_,T_,T_,T_,T_,T_,T_,T_,T_,T_,T_,T_,T_,T_,F_] rfl rfl (any_of HT_.out (by kernel_rfl)) (fun _ _ _ h => h) (Or.inr ⟨by rfl, rfl⟩) ?_ ?_
   rotate_left
   ·simp only [Act.put, q1_, q2_, q3_, i64_w, i32_w]
    rfl
   refine pure_ (i := 17) (N := some 98) (v := ?_) (a' := ?_) #[T_,T_,T_,T_,T_,T_,T_,T_,T_,T_,T_,T_,T_,T_,T_,T_,T_,T_] rfl rfl (any_of HT_.out (by kernel_rfl)) (fun _ _ _ h => h) (Or.inl ⟨by rfl, ?_⟩) ?_ ?_
   rotate_left
   ·intro w'
    go_simp
    with_reducible rfl
   rotate_left
   ·simp only [Act.put, q1_, q2_, q3_, i64_w, i32_w]
    rfl
   refine done_ (done_of HT_.out (by kernel_rfl)) ?_
   try go_wp2
   go_meet
   case rel => exact ⟨_, (false), (by first | rfl | (simp; done) | (simp [*]; done)), H', ⟨by have := HK1.out; first | omega | exact Nat.le_refl _⟩, ⟨by (with_reducible repeat (first | refine blk_drewN ?_ _ | refine blk_drew ?_ | refine blk_alloc ?_ _)); exact BK143.out⟩, ⟨by (with_reducible repeat (first | refine blk_drewN ?_ _ | refine blk_drew ?_ | refine blk_alloc ?_ _)); exact BK150.out⟩, ⟨by repeat (first | (with_reducible first | exact HB.out | apply below_alloc | apply pw_below_drewN | apply below_drew1 | refine below_set ?_ GE143.out | refine below_set ?_ GE150.out) | exact HB.out)⟩⟩
  subst c47
  have H1 : (if t146 = t151 then ((interregnumref11_med.f ((rd_T41 l3 (rd l4 x16_1)).f2.f0) ((rd_T41 l3 (rd l4 x16_1)).f2.f1) ((rd_T41 l3 (rd l4 x16_1)).f2.f2) ((rd_T41 l3 (rd l4 x16_1)).f2.f3) ((rd_T41 l3 (rd l4 x16_1)).f2.f4) ((rd_T41 l3 (rd l4 x16_1)).f2.f5) ((rd_T41 l3 (rd l4 x16_1)).f2.f6)).bind fun t153 => ((interregnumref11_med.f ((rd_T41 l3 a5).f2.f0) ((rd_T41 l3 a5).f2.f1) ((rd_T41 l3 a5).f2.f2) ((rd_T41 l3 a5).f2.f3) ((rd_T41 l3 a5).f2.f4) ((rd_T41 l3 a5).f2.f5) ((rd_T41 l3 a5).f2.f6)).bind fun t154 => (interregnumref11_score.j1 k1 l3 l4 t146 true x16_1 (decide (t153 < t154)) ((rd_T41 l3 a5).f0.f0) ((rd_T41 l3 a5).f0.f1) ((rd_T41 l3 a5).f1) ((rd_T41 l3 a5).f2.f0) ((rd_T41 l3 a5).f2.f1) ((rd_T41 l3 a5).f2.f2) ((rd_T41 l3 a5).f2.f3) ((rd_T41 l3 a5).f2.f4) ((rd_T41 l3 a5).f2.f5) ((rd_T41 l3 a5).f2.f6) ((rd_T41 l3 a5).f3)))) else (interregnumref11_score.j1 k1 l3 l4 t146 true x16_1 false ((rd_T41 l3 a5).f0.f0) ((rd_T41 l3 a5).f0.f1) ((rd_T41 l3 a5).f1) ((rd_T41 l3 a5).f2.f0) ((rd_T41 l3 a5).f2.f1) ((rd_T41 l3 a5).f2.f2) ((rd_T41 l3 a5).f2.f3) ((rd_T41 l3 a5).f2.f4) ((rd_T41 l3 a5).f2.f5) ((rd_T41 l3 a5).f2.f6) ((rd_T41 l3 a5).f3))) = some r := by rw [if_pos rfl] at H; exact H
  clear H
  have H := H1
  clear H1
  by_cases c48 : t146 = t151
  rotate_left
  ·rw [if_neg c48] at H
   have c48b0 : (t146 == t151) = false := beq_eq_false_iff_ne.mpr c48
   have c48b1 : (t146 != t151) = true := bne_iff_ne.mpr c48
   (first | rw [c48b0] | (simp only [i64_w, i32_w]; rw [c48b0]) | skip)
   have H' := Aside0.mk H
   clear H
   try go_wp2
   have n0_ : Aside0 ((((((((((((w43.setCell ⟨gb150, 0, none⟩ (.int .u32 ((rd_T41 l3 (rd l4 x16_1)).f0.f0))).setCell ⟨gb150, 1, none⟩ (.int .i64 ((rd_T41 l3 (rd l4 x16_1)).f0.f1))).setCell ⟨gb150, 2, none⟩ (.int .i64 ((rd_T41 l3 (rd l4 x16_1)).f1))).setCell ⟨gb150, 3, none⟩ (.int .i64 ((rd_T41 l3 (rd l4 x16_1)).f2.f0))).setCell ⟨gb150, 4, none⟩ (.slice A149_4 ((rd_T41 l3 (rd l4 x16_1)).f2.f1).length c149_4)).setCell ⟨gb150, 5, none⟩ (.int .u32 ((rd_T41 l3 (rd l4 x16_1)).f2.f2))).setCell ⟨gb150, 6, none⟩ (.int .i64 ((rd_T41 l3 (rd l4 x16_1)).f2.f3))).setCell ⟨gb150, 7, none⟩ (.int .i64 ((rd_T41 l3 (rd l4 x16_1)).f2.f4))).setCell ⟨gb150, 8, none⟩ (.slice A149_8 ((rd_T41 l3 (rd l4 x16_1)).f2.f5).length c149_8)).setCell ⟨gb150, 9, none⟩ (.slice A149_9 ((rd_T41 l3 (rd l4 x16_1)).f2.f6).length c149_9)).setCell ⟨gb150, 10, none⟩ (.int .i64 ((rd_T41 l3 (rd l4 x16_1)).f3))).heap[gb143]? = some (.cells #[.int .u32 ((rd_T41 l3 a5).f0.f0), .int .i64 ((rd_T41 l3 a5).f0.f1), .int .i64 ((rd_T41 l3 a5).f1), .int .i64 ((rd_T41 l3 a5).f2.f0), .slice A142_4 ((rd_T41 l3 a5).f2.f1).length c142_4, .int .u32 ((rd_T41 l3 a5).f2.f2), .int .i64 ((rd_T41 l3 a5).f2.f3), .int .i64 ((rd_T41 l3 a5).f2.f4), .slice A142_8 ((rd_T41 l3 a5).f2.f5).length c142_8, .slice A142_9 ((rd_T41 l3 a5).f2.f6).length c142_9, .int .i64 ((rd_T41 l3 a5).f3)] 41 (0, 0))) := ⟨by (with_reducible repeat (first | refine blk_drewN ?_ _ | refine blk_drew ?_ | refine blk_alloc ?_ _)); refine blk_far ?_ NB143_150.out _; (with_reducible repeat (first | refine blk_drewN ?_ _ | refine blk_drew ?_ | refine blk_alloc ?_ _)); refine blk_far ?_ NB143_150.out _; (with_reducible repeat (first | refine blk_drewN ?_ _ | refine blk_drew ?_ | refine blk_alloc ?_ _)); refine blk_far ?_ NB143_150.out _; (with_reducible repeat (first | refine blk_drewN ?_ _ | refine blk_drew ?_ | refine blk_alloc ?_ _)); refine blk_far ?_ NB143_150.out _; (with_reducible repeat (first | refine blk_drewN ?_ _ | refine blk_drew ?_ | refine blk_alloc ?_ _)); refine blk_far ?_ NB143_150.out _; (with_reducible repeat (first | refine blk_drewN ?_ _ | refine blk_drew ?_ | refine blk_alloc ?_ _)); refine blk_far ?_ NB143_150.out _; (with_reducible repeat (first | refine blk_drewN ?_ _ | refine blk_drew ?_ | refine blk_alloc ?_ _)); refine blk_far ?_ NB143_150.out _; (with_reducible repeat (first | refine blk_drewN ?_ _ | refine blk_drew ?_ | refine blk_alloc ?_ _)); refine blk_far ?_ NB143_150.out _; (with_reducible repeat (first | refine blk_drewN ?_ _ | refine blk_drew ?_ | refine blk_alloc ?_ _)); refine blk_far ?_ NB143_150.out _; (with_reducible repeat (first | refine blk_drewN ?_ _ | refine blk_drew ?_ | refine blk_alloc ?_ _)); refine blk_far ?_ NB143_150.out _; (with_reducible repeat (first | refine blk_drewN ?_ _ | refine blk_drew ?_ | refine blk_alloc ?_ _)); refine blk_far ?_ NB143_150.out _; (with_reducible repeat (first | refine blk_drewN ?_ _ | refine blk_drew ?_ | refine blk_alloc ?_ _)); exact BK143.out⟩
   have n1_ : Aside0 ((((((((((((w43.setCell ⟨gb150, 0, none⟩ (.int .u32 ((rd_T41 l3 (rd l4 x16_1)).f0.f0))).setCell ⟨gb150, 1, none⟩ (.int .i64 ((rd_T41 l3 (rd l4 x16_1)).f0.f1))).setCell ⟨gb150, 2, none⟩ (.int .i64 ((rd_T41 l3 (rd l4 x16_1)).f1))).setCell ⟨gb150, 3, none⟩ (.int .i64 ((rd_T41 l3 (rd l4 x16_1)).f2.f0))).setCell ⟨gb150, 4, none⟩ (.slice A149_4 ((rd_T41 l3 (rd l4 x16_1)).f2.f1).length c149_4)).setCell ⟨gb150, 5, none⟩ (.int .u32 ((rd_T41 l3 (rd l4 x16_1)).f2.f2))).setCell ⟨gb150, 6, none⟩ (.int .i64 ((rd_T41 l3 (rd l4 x16_1)).f2.f3))).setCell ⟨gb150, 7, none⟩ (.int .i64 ((rd_T41 l3 (rd l4 x16_1)).f2.f4))).setCell ⟨gb150, 8, none⟩ (.slice A149_8 ((rd_T41 l3 (rd l4 x16_1)).f2.f5).length c149_8)).setCell ⟨gb150, 9, none⟩ (.slice A149_9 ((rd_T41 l3 (rd l4 x16_1)).f2.f6).length c149_9)).setCell ⟨gb150, 10, none⟩ (.int .i64 ((rd_T41 l3 (rd l4 x16_1)).f3))).heap[gb150]? = some (.cells #[.int .u32 ((rd_T41 l3 (rd l4 x16_1)).f0.f0), .int .i64 ((rd_T41 l3 (rd l4 x16_1)).f0.f1), .int .i64 ((rd_T41 l3 (rd l4 x16_1)).f1), .int .i64 ((rd_T41 l3 (rd l4 x16_1)).f2.f0), .slice A149_4 ((rd_T41 l3 (rd l4 x16_1)).f2.f1).length c149_4, .int .u32 ((rd_T41 l3 (rd l4 x16_1)).f2.f2), .int .i64 ((rd_T41 l3 (rd l4 x16_1)).f2.f3), .int .i64 ((rd_T41 l3 (rd l4 x16_1)).f2.f4), .slice A149_8 ((rd_T41 l3 (rd l4 x16_1)).f2.f5).length c149_8, .slice A149_9 ((rd_T41 l3 (rd l4 x16_1)).f2.f6).length c149_9, .int .i64 ((rd_T41 l3 (rd l4 x16_1)).f3)] 41 (0, 0))) := ⟨by (with_reducible repeat (first | refine blk_drewN ?_ _ | refine blk_drew ?_ | refine blk_alloc ?_ _)); refine blk_put (cs := #[.int .u32 ((rd_T41 l3 (rd l4 x16_1)).f0.f0), .int .i64 ((rd_T41 l3 (rd l4 x16_1)).f0.f1), .int .i64 ((rd_T41 l3 (rd l4 x16_1)).f1), .int .i64 ((rd_T41 l3 (rd l4 x16_1)).f2.f0), .slice A149_4 ((rd_T41 l3 (rd l4 x16_1)).f2.f1).length c149_4, .int .u32 ((rd_T41 l3 (rd l4 x16_1)).f2.f2), .int .i64 ((rd_T41 l3 (rd l4 x16_1)).f2.f3), .int .i64 ((rd_T41 l3 (rd l4 x16_1)).f2.f4), .slice A149_8 ((rd_T41 l3 (rd l4 x16_1)).f2.f5).length c149_8, .slice A149_9 ((rd_T41 l3 (rd l4 x16_1)).f2.f6).length c149_9, .int .i64 0]) ?_ 10 _ rfl; (with_reducible repeat (first | refine blk_drewN ?_ _ | refine blk_drew ?_ | refine blk_alloc ?_ _)); refine blk_put (cs := #[.int .u32 ((rd_T41 l3 (rd l4 x16_1)).f0.f0), .int .i64 ((rd_T41 l3 (rd l4 x16_1)).f0.f1), .int .i64 ((rd_T41 l3 (rd l4 x16_1)).f1), .int .i64 ((rd_T41 l3 (rd l4 x16_1)).f2.f0), .slice A149_4 ((rd_T41 l3 (rd l4 x16_1)).f2.f1).length c149_4, .int .u32 ((rd_T41 l3 (rd l4 x16_1)).f2.f2), .int .i64 ((rd_T41 l3 (rd l4 x16_1)).f2.f3), .int .i64 ((rd_T41 l3 (rd l4 x16_1)).f2.f4), .slice A149_8 ((rd_T41 l3 (rd l4 x16_1)).f2.f5).length c149_8, .slice none 0 0, .int .i64 0]) ?_ 9 _ rfl; (with_reducible repeat (first | refine blk_drewN ?_ _ | refine blk_drew ?_ | refine blk_alloc ?_ _)); refine blk_put (cs := #[.int .u32 ((rd_T41 l3 (rd l4 x16_1)).f0.f0), .int .i64 ((rd_T41 l3 (rd l4 x16_1)).f0.f1), .int .i64 ((rd_T41 l3 (rd l4 x16_1)).f1), .int .i64 ((rd_T41 l3 (rd l4 x16_1)).f2.f0), .slice A149_4 ((rd_T41 l3 (rd l4 x16_1)).f2.f1).length c149_4, .int .u32 ((rd_T41 l3 (rd l4 x16_1)).f2.f2), .int .i64 ((rd_T41 l3 (rd l4 x16_1)).f2.f3), .int .i64 ((rd_T41 l3 (rd l4 x16_1)).f2.f4), .slice none 0 0, .slice none 0 0, .int .i64 0]) ?_ 8 _ rfl; (with_reducible repeat (first | refine blk_drewN ?_ _ | refine blk_drew ?_ | refine blk_alloc ?_ _)); refine blk_put (cs := #[.int .u32 ((rd_T41 l3 (rd l4 x16_1)).f0.f0), .int .i64 ((rd_T41 l3 (rd l4 x16_1)).f0.f1), .int .i64 ((rd_T41 l3 (rd l4 x16_1)).f1), .int .i64 ((rd_T41 l3 (rd l4 x16_1)).f2.f0), .slice A149_4 ((rd_T41 l3 (rd l4 x16_1)).f2.f1).length c149_4, .int .u32 ((rd_T41 l3 (rd l4 x16_1)).f2.f2), .int .i64 ((rd_T41 l3 (rd l4 x16_1)).f2.f3), .int .i64 0, .slice none 0 0, .slice none 0 0, .int .i64 0]) ?_ 7 _ rfl; (with_reducible repeat (first | refine blk_drewN ?_ _ | refine blk_drew ?_ | refine blk_alloc ?_ _)); refine blk_put (cs := #[.int .u32 ((rd_T41 l3 (rd l4 x16_1)).f0.f0), .int .i64 ((rd_T41 l3 (rd l4 x16_1)).f0.f1), .int .i64 ((rd_T41 l3 (rd l4 x16_1)).f1), .int .i64 ((rd_T41 l3 (rd l4 x16_1)).f2.f0), .slice A149_4 ((rd_T41 l3 (rd l4 x16_1)).f2.f1).length c149_4, .int .u32 ((rd_T41 l3 (rd l4 x16_1)).f2.f2), .int .i64 0, .int .i64 0, .slice none 0 0, .slice none 0 0, .int .i64 0]) ?_ 6 _ rfl; (with_reducible repeat (first | refine blk_drewN ?_ _ | refine blk_drew ?_ | refine blk_alloc ?_ _)); refine blk_put (cs := #[.int .u32 ((rd_T41 l3 (rd l4 x16_1)).f0.f0), .int .i64 ((rd_T41 l3 (rd l4 x16_1)).f0.f1), .int .i64 ((rd_T41 l3 (rd l4 x16_1)).f1), .int .i64 ((rd_T41 l3 (rd l4 x16_1)).f2.f0), .slice A149_4 ((rd_T41 l3 (rd l4 x16_1)).f2.f1).length c149_4, .int .u32 0, .int .i64 0, .int .i64 0, .slice none 0 0, .slice none 0 0, .int .i64 0]) ?_ 5 _ rfl; (with_reducible repeat (first | refine blk_drewN ?_ _ | refine blk_drew ?_ | refine blk_alloc ?_ _)); refine blk_put (cs := #[.int .u32 ((rd_T41 l3 (rd l4 x16_1)).f0.f0), .int .i64 ((rd_T41 l3 (rd l4 x16_1)).f0.f1), .int .i64 ((rd_T41 l3 (rd l4 x16_1)).f1), .int .i64 ((rd_T41 l3 (rd l4 x16_1)).f2.f0), .slice none 0 0, .int .u32 0, .int .i64 0, .int .i64 0, .slice none 0 0, .slice none 0 0, .int .i64 0]) ?_ 4 _ rfl; (with_reducible repeat (first | refine blk_drewN ?_ _ | refine blk_drew ?_ | refine blk_alloc ?_ _)); refine blk_put (cs := #[.int .u32 ((rd_T41 l3 (rd l4 x16_1)).f0.f0), .int .i64 ((rd_T41 l3 (rd l4 x16_1)).f0.f1), .int .i64 ((rd_T41 l3 (rd l4 x16_1)).f1), .int .i64 0, .slice none 0 0, .int .u32 0, .int .i64 0, .int .i64 0, .slice none 0 0, .slice none 0 0, .int .i64 0]) ?_ 3 _ rfl; (with_reducible repeat (first | refine blk_drewN ?_ _ | refine blk_drew ?_ | refine blk_alloc ?_ _)); refine blk_put (cs := #[.int .u32 ((rd_T41 l3 (rd l4 x16_1)).f0.f0), .int .i64 ((rd_T41 l3 (rd l4 x16_1)).f0.f1), .int .i64 0, .int .i64 0, .slice none 0 0, .int .u32 0, .int .i64 0, .int .i64 0, .slice none 0 0, .slice none 0 0, .int .i64 0]) ?_ 2 _ rfl; (with_reducible repeat (first | refine blk_drewN ?_ _ | refine blk_drew ?_ | refine blk_alloc ?_ _)); refine blk_put (cs := #[.int .u32 ((rd_T41 l3 (rd l4 x16_1)).f0.f0), .int .i64 0, .int .i64 0, .int .i64 0, .slice none 0 0, .int .u32 0, .int .i64 0, .int .i64 0, .slice none 0 0, .slice none 0 0, .int .i64 0]) ?_ 1 _ rfl; (with_reducible repeat (first | refine blk_drewN ?_ _ | refine blk_drew ?_ | refine blk_alloc ?_ _)); refine blk_put (cs := #[.int .u32 0, .int .i64 0, .int .i64 0, .int .i64 0, .slice none 0 0, .int .u32 0, .int .i64 0, .int .i64 0, .slice none 0 0, .slice none 0 0, .int .i64 0]) ?_ 0 _ rfl; (with_reducible repeat (first | refine blk_drewN ?_ _ | refine blk_drew ?_ | refine blk_alloc ?_ _)); exact BK150.out⟩
   have n2_ : Aside0 (Below w.heap.size w (((((((((((w43.setCell ⟨gb150, 0, none⟩ (.int .u32 ((rd_T41 l3 (rd l4 x16_1)).f0.f0))).setCell ⟨gb150, 1, none⟩ (.int .i64 ((rd_T41 l3 (rd l4 x16_1)).f0.f1))).setCell ⟨gb150, 2, none⟩ (.int .i64 ((rd_T41 l3 (rd l4 x16_1)).f1))).setCell ⟨gb150, 3, none⟩ (.int .i64 ((rd_T41 l3 (rd l4 x16_1)).f2.f0))).setCell ⟨gb150, 4, none⟩ (.slice A149_4 ((rd_T41 l3 (rd l4 x16_1)).f2.f1).length c149_4)).setCell ⟨gb150, 5, none⟩ (.int .u32 ((rd_T41 l3 (rd l4 x16_1)).f2.f2))).setCell ⟨gb150, 6, none⟩ (.int .i64 ((rd_T41 l3 (rd l4 x16_1)).f2.f3))).setCell ⟨gb150, 7, none⟩ (.int .i64 ((rd_T41 l3 (rd l4 x16_1)).f2.f4))).setCell ⟨gb150, 8, none⟩ (.slice A149_8 ((rd_T41 l3 (rd l4 x16_1)).f2.f5).length c149_8)).setCell ⟨gb150, 9, none⟩ (.slice A149_9 ((rd_T41 l3 (rd l4 x16_1)).f2.f6).length c149_9)).setCell ⟨gb150, 10, none⟩ (.int .i64 ((rd_T41 l3 (rd l4 x16_1)).f3)))) := ⟨by repeat (first | (with_reducible first | exact HB.out | apply below_alloc | apply pw_below_drewN | apply below_drew1 | refine below_set ?_ GE143.out | refine below_set ?_ GE150.out) | exact HB.out)⟩
   (try clear BK143)
   (try clear BK150)
   (try clear HB)
   generalize (((((((((((w43.setCell ⟨gb150, 0, none⟩ (.int .u32 ((rd_T41 l3 (rd l4 x16_1)).f0.f0))).setCell ⟨gb150, 1, none⟩ (.int .i64 ((rd_T41 l3 (rd l4 x16_1)).f0.f1))).setCell ⟨gb150, 2, none⟩ (.int .i64 ((rd_T41 l3 (rd l4 x16_1)).f1))).setCell ⟨gb150, 3, none⟩ (.int .i64 ((rd_T41 l3 (rd l4 x16_1)).f2.f0))).setCell ⟨gb150, 4, none⟩ (.slice A149_4 ((rd_T41 l3 (rd l4 x16_1)).f2.f1).length c149_4)).setCell ⟨gb150, 5, none⟩ (.int .u32 ((rd_T41 l3 (rd l4 x16_1)).f2.f2))).setCell ⟨gb150, 6, none⟩ (.int .i64 ((rd_T41 l3 (rd l4 x16_1)).f2.f3))).setCell ⟨gb150, 7, none⟩ (.int .i64 ((rd_T41 l3 (rd l4 x16_1)).f2.f4))).setCell ⟨gb150, 8, none⟩ (.slice A149_8 ((rd_T41 l3 (rd l4 x16_1)).f2.f5).length c149_8)).setCell ⟨gb150, 9, none⟩ (.slice A149_9 ((rd_T41 l3 (rd l4 x16_1)).f2.f6).length c149_9)).setCell ⟨gb150, 10, none⟩ (.int .i64 ((rd_T41 l3 (rd l4 x16_1)).f3))) = w55 at n0_ n1_ n2_ ⊢
   have BK143 := n0_
   have BK150 := n1_
   have HB := n2_
   clear n0_ n1_ n2_
   refine start_ (n := 18) (S := fun w' => True) (ds := []) #[F_,F_,F_,F_,F_,F_,F_,F_,F_,F_,F_,F_,F_,F_,F_,F_,F_,F_] (by kernel_rfl) rfl rfl trivial (fun hHeld => ?_); refine with_tabW interregnumref11_score.tab24 interregnumref11_score.bits24 (fun HT_ HW_ => ?_)
   refine pure_ (i := 0) (N := some 81) (v := ?_) (a' := ?_) #[T_,F_,F_,F_,F_,F_,F_,F_,F_,F_,F_,F_,F_,F_,F_,F_,F_,F_] rfl rfl (any_of HT_.out (by kernel_rfl)) (fun _ _ _ h => h) (Or.inl ⟨by rfl, ?_⟩) ?_ ?_
   rotate_left
   ·intro w'
    go_simp
    with_reducible rfl
   rotate_left
   ·simp only [Act.put, q1_, q2_, q3_, i64_w, i32_w]
    rfl
   refine pure_ (i := 1) (N := some 82) (v := ?_) (a' := ?_) #[T_,T_,F_,F_,F_,F_,F_,F_,F_,F_,F_,F_,F_,F_,F_,F_,F_,F_] rfl rfl (any_of HT_.out (by kernel_rfl)) (fun _ _ _ h => h) (Or.inl ⟨by rfl, ?_⟩) ?_ ?_
   rotate_left
   ·intro w'
    go_simp
    with_reducible rfl
   rotate_left
   ·simp only [Act.put, q1_, q2_, q3_, i64_w, i32_w]
    rfl
   refine pure_ (i := 2) (N := some 83) (v := ?_) (a' := ?_) #[T_,T_,T_,F_,F_,F_,F_,F_,F_,F_,F_,F_,F_,F_,F_,F_,F_,F_] rfl rfl (any_of HT_.out (by kernel_rfl)) (fun _ _ _ h => h) (Or.inl ⟨by rfl, ?_⟩) ?_ ?_
   rotate_left
   ·intro w'
    go_simp
    with_reducible rfl
   rotate_left
   ·simp only [Act.put, q1_, q2_, q3_, i64_w, i32_w]
    rfl
   refine pure_ (i := 3) (N := some 84) (v := ?_) (a' := ?_) #[T_,T_,T_,T_,F_,F_,F_,F_,F_,F_,F_,F_,F_,F_,F_,F_,F_,F_] rfl rfl (any_of HT_.out (by kernel_rfl)) (fun _ _ _ h => h) (Or.inl ⟨by rfl, ?_⟩) ?_ ?_
   rotate_left
   ·intro w'
    go_simp
    with_reducible rfl
   rotate_left
   ·simp only [Act.put, q1_, q2_, q3_, i64_w, i32_w]
    rfl
   refine pure_ (i := 4) (N := some 85) (v := ?_) (a' := ?_) #[T_,T_,T_,T_,T_,F_,F_,F_,F_,F_,F_,F_,F_,F_,F_,F_,F_,F_] rfl rfl (any_of HT_.out (by kernel_rfl)) (fun _ _ _ h => h) (Or.inl ⟨by rfl, ?_⟩) ?_ ?_
   rotate_left
   ·intro w'
    go_simp
    with_reducible rfl
   rotate_left
   ·simp only [Act.put, q1_, q2_, q3_, i64_w, i32_w]
    rfl
   refine pure_ (i := 5) (N := some 86) (v := ?_) (a' := ?_) #[T_,T_,T_,T_,T_,T_,F_,F_,F_,F_,F_,F_,F_,F_,F_,F_,F_,F_] rfl rfl (any_of HT_.out (by kernel_rfl)) (fun _ _ _ h => h) (Or.inl ⟨by rfl, ?_⟩) ?_ ?_
   rotate_left
   ·intro w'
    go_simp
    with_reducible rfl
   rotate_left
   ·simp only [Act.put, q1_, q2_, q3_, i64_w, i32_w]
    rfl
   refine pure_ (i := 6) (N := some 87) (v := ?_) (a' := ?_) #[T_,T_,T_,T_,T_,T_,T_,F_,F_,F_,F_,F_,F_,F_,F_,F_,F_,F_] rfl rfl (any_of HT_.out (by kernel_rfl)) (fun _ _ _ h => h) (Or.inl ⟨by rfl, ?_⟩) ?_ ?_
   rotate_left
   ·intro w'
    go_simp
    with_reducible rfl
   rotate_left
   ·simp only [Act.put, q1_, q2_, q3_, i64_w, i32_w]
    rfl
   refine pure_ (i := 7) (N := some 88) (v := ?_) (a' := ?_) #[T_,T_,T_,T_,T_,T_,T_,T_,F_,F_,F_,F_,F_,F_,F_,F_,F_,F_] rfl rfl (any_of HT_.out (by kernel_rfl)) (fun _ _ _ h => h) (Or.inl ⟨by rfl, ?_⟩) ?_ ?_
   rotate_left
   ·intro w'
    go_simp
    with_reducible rfl
   rotate_left
   ·simp only [Act.put, q1_, q2_, q3_, i64_w, i32_w]
    rfl
   refine pure_ (i := 8) (N := some 89) (v := ?_) (a' := ?_) #[T_,T_,T_,T_,T_,T_,T_,T_,T_,F_,F_,F_,F_,F_,F_,F_,F_,F_] rfl rfl (any_of HT_.out (by kernel_rfl)) (fun _ _ _ h => h) (Or.inl ⟨by rfl, ?_⟩) ?_ ?_
   rotate_left
   ·intro w'
    go_simp
    with_reducible rfl
   rotate_left
   ·simp only [Act.put, q1_, q2_, q3_, i64_w, i32_w]
    rfl
   refine pure_ (i := 9) (N := some 90) (v := ?_) (a' := ?_) #[T_,T_,T_,T_,T_,T_,T_,T_,T_,T_,F_,F_,F_,F_,F_,F_,F_,F_] rfl rfl (any_of HT_.out (by kernel_rfl)) (fun _ _ _ h => h) (Or.inl ⟨by rfl, ?_⟩) ?_ ?_
   rotate_left
   ·intro w'
    go_simp
    with_reducible rfl
   rotate_left
   ·simp only [Act.put, q1_, q2_, q3_, i64_w, i32_w]
    rfl
   refine pure_ (i := 10) (N := some 91) (v := undef) (a' := ?_) #[T_,T_,T_,T_,T_,T_,T_,T_,T_,T_,T_,F_,F_,F_,F_,F_,F_,F_] rfl rfl (any_of HT_.out (by kernel_rfl)) (fun _ _ _ h => h) (Or.inr ⟨by rfl, rfl⟩) ?_ ?_
   rotate_left
   ·simp only [Act.put, q1_, q2_, q3_, i64_w, i32_w]
    rfl
   refine pure_ (i := 11) (N := some 92) (v := undef) (a' := ?_) #[T_,T_,T_,T_,T_,T_,T_,T_,T_,T_,T_,T_,F_,F_,F_,F_,F_,F_] rfl rfl (any_of HT_.out (by kernel_rfl)) (fun _ _ _ h => h) (Or.inr ⟨by rfl, rfl⟩) ?_ ?_
   rotate_left
   ·simp only [Act.put, q1_, q2_, q3_, i64_w, i32_w]
    rfl
   refine pure_ (i := 12) (N := some 93) (v := undef) (a' := ?_) #[T_,T_,T_,T_,T_,T_,T_,T_,T_,T_,T_,T_,T_,F_,F_,F_,F_,F_] rfl rfl (any_of HT_.out (by kernel_rfl)) (fun _ _ _ h => h) (Or.inr ⟨by rfl, rfl⟩) ?_ ?_
   rotate_left
   ·simp only [Act.put, q1_, q2_, q3_, i64_w, i32_w]
    rfl
   refine pure_ (i := 13) (N := some 94) (v := undef) (a' := ?_) #[T_,T_,T_,T_,T_,T_,T_,T_,T_,T_,T_,T_,T_,T_,F_,F_,F_,F_] rfl rfl (any_of HT_.out (by kernel_rfl)) (fun _ _ _ h => h) (Or.inr ⟨by rfl, rfl⟩) ?_ ?_
   rotate_left
   ·simp only [Act.put, q1_, q2_, q3_, i64_w, i32_w]
    rfl
   refine pure_ (i := 14) (N := some 95) (v := undef) (a' := ?_) #[T_,T_,T_,T_,T_,T_,T_,T_,T_,T_,T_,T_,T_,T_,T_,F_,F_,F_] rfl rfl (any_of HT_.out (by kernel_rfl)) (fun _ _ _ h => h) (Or.inr ⟨by rfl, rfl⟩) ?_ ?_
   rotate_left
   ·simp only [Act.put, q1_, q2_, q3_, i64_w, i32_w]
    rfl
   refine pure_ (i := 15) (N := some 96) (v := undef) (a' := ?_) #[T_,T_,T_,T_,T_,T_,T_,T_,T_,T_,T_,T_,T_,T_,T_,T_,F_,F_] rfl rfl (any_of HT_.out (by kernel_rfl)) (fun _ _ _ h => h) (Or.inr ⟨by rfl, rfl⟩) ?_ ?_
   rotate_left
   ·simp only [Act.put, q1_, q2_, q3_, i64_w, i32_w]
    rfl
   refine pure_ (i := 16) (N := some 97) (v := undef) (a' := ?_) #[T_,T_,T_,T_,T_,T_,T_,T_,T_,T_,T_,T_,T_,T_,T_,T_,T_,F_] rfl rfl (any_of HT_.out (by kernel_rfl)) (fun _ _ _ h => h) (Or.inr ⟨by rfl, rfl⟩) ?_ ?_
   rotate_left
   ·simp only [Act.put, q1_, q2_, q3_, i64_w, i32_w]
    rfl
   refine pure_ (i := 17) (N := some 98) (v := ?_) (a' := ?_) #[T_,T_,T_,T_,T_,T_,T_,T_,T_,T_,T_,T_,T_,T_,T_,T_,T_,T_] rfl rfl (any_of HT_.out (by kernel_rfl)) (fun _ _ _ h => h) (Or.inl ⟨by rfl, ?_⟩) ?_ ?_
   rotate_left
   ·intro w'
    go_simp
    with_reducible rfl
   rotate_left
   ·simp only [Act.put, q1_, q2_, q3_, i64_w, i32_w]
    rfl
   refine done_ (done_of HT_.out (by kernel_rfl)) ?_
   try go_wp2
   go_meet
   case rel => exact ⟨_, (false), (by first | rfl | (simp; done) | (simp [*]; done)), H', ⟨by have := HK1.out; first | omega | exact Nat.le_refl _⟩, ⟨by (with_reducible repeat (first | refine blk_drewN ?_ _ | refine blk_drew ?_ | refine blk_alloc ?_ _)); exact BK143.out⟩, ⟨by (with_reducible repeat (first | refine blk_drewN ?_ _ | refine blk_drew ?_ | refine blk_alloc ?_ _)); exact BK150.out⟩, ⟨by repeat (first | (with_reducible first | exact HB.out | apply below_alloc | apply pw_below_drewN | apply below_drew1 | refine below_set ?_ GE143.out | refine below_set ?_ GE150.out) | exact HB.out)⟩⟩
  rw [if_pos c48] at H
  have c48b0 : (t146 == t151) = true := beq_iff_eq.mpr c48
  have c48b1 : (t146 != t151) = false := bne_eq_false_iff_eq.mpr c48
  clear c48
  (first | rw [c48b0] | (simp only [i64_w, i32_w]; rw [c48b0]) | skip)
  replace H := Option.bind_eq_some_iff.mp H
  obtain ⟨t153, A490, H⟩ := H
  replace H : ((interregnumref11_med.f ((rd_T41 l3 a5).f2.f0) ((rd_T41 l3 a5).f2.f1) ((rd_T41 l3 a5).f2.f2) ((rd_T41 l3 a5).f2.f3) ((rd_T41 l3 a5).f2.f4) ((rd_T41 l3 a5).f2.f5) ((rd_T41 l3 a5).f2.f6)).bind fun t154 => (interregnumref11_score.j1 k1 l3 l4 t146 true x16_1 (decide (t153 < t154)) ((rd_T41 l3 a5).f0.f0) ((rd_T41 l3 a5).f0.f1) ((rd_T41 l3 a5).f1) ((rd_T41 l3 a5).f2.f0) ((rd_T41 l3 a5).f2.f1) ((rd_T41 l3 a5).f2.f2) ((rd_T41 l3 a5).f2.f3) ((rd_T41 l3 a5).f2.f4) ((rd_T41 l3 a5).f2.f5) ((rd_T41 l3 a5).f2.f6) ((rd_T41 l3 a5).f3))) = some r := H
  have A49 := Aside0.mk A490
  clear A490
  replace H := Option.bind_eq_some_iff.mp H
  obtain ⟨t154, A500, H⟩ := H
  replace H : (interregnumref11_score.j1 k1 l3 l4 t146 true x16_1 (decide (t153 < t154)) ((rd_T41 l3 a5).f0.f0) ((rd_T41 l3 a5).f0.f1) ((rd_T41 l3 a5).f1) ((rd_T41 l3 a5).f2.f0) ((rd_T41 l3 a5).f2.f1) ((rd_T41 l3 a5).f2.f2) ((rd_T41 l3 a5).f2.f3) ((rd_T41 l3 a5).f2.f4) ((rd_T41 l3 a5).f2.f5) ((rd_T41 l3 a5).f2.f6) ((rd_T41 l3 a5).f3)) = some r := H
  have A50 := Aside0.mk A500
  clear A500
  have H' := Aside0.mk H
  clear H
  try go_wp2
  have n0_ : Aside0 ((((((((((((w43.setCell ⟨gb150, 0, none⟩ (.int .u32 ((rd_T41 l3 (rd l4 x16_1)).f0.f0))).setCell ⟨gb150, 1, none⟩ (.int .i64 ((rd_T41 l3 (rd l4 x16_1)).f0.f1))).setCell ⟨gb150, 2, none⟩ (.int .i64 ((rd_T41 l3 (rd l4 x16_1)).f1))).setCell ⟨gb150, 3, none⟩ (.int .i64 ((rd_T41 l3 (rd l4 x16_1)).f2.f0))).setCell ⟨gb150, 4, none⟩ (.slice A149_4 ((rd_T41 l3 (rd l4 x16_1)).f2.f1).length c149_4)).setCell ⟨gb150, 5, none⟩ (.int .u32 ((rd_T41 l3 (rd l4 x16_1)).f2.f2))).setCell ⟨gb150, 6, none⟩ (.int .i64 ((rd_T41 l3 (rd l4 x16_1)).f2.f3))).setCell ⟨gb150, 7, none⟩ (.int .i64 ((rd_T41 l3 (rd l4 x16_1)).f2.f4))).setCell ⟨gb150, 8, none⟩ (.slice A149_8 ((rd_T41 l3 (rd l4 x16_1)).f2.f5).length c149_8)).setCell ⟨gb150, 9, none⟩ (.slice A149_9 ((rd_T41 l3 (rd l4 x16_1)).f2.f6).length c149_9)).setCell ⟨gb150, 10, none⟩ (.int .i64 ((rd_T41 l3 (rd l4 x16_1)).f3))).heap[gb143]? = some (.cells #[.int .u32 ((rd_T41 l3 a5).f0.f0), .int .i64 ((rd_T41 l3 a5).f0.f1), .int .i64 ((rd_T41 l3 a5).f1), .int .i64 ((rd_T41 l3 a5).f2.f0), .slice A142_4 ((rd_T41 l3 a5).f2.f1).length c142_4, .int .u32 ((rd_T41 l3 a5).f2.f2), .int .i64 ((rd_T41 l3 a5).f2.f3), .int .i64 ((rd_T41 l3 a5).f2.f4), .slice A142_8 ((rd_T41 l3 a5).f2.f5).length c142_8, .slice A142_9 ((rd_T41 l3 a5).f2.f6).length c142_9, .int .i64 ((rd_T41 l3 a5).f3)] 41 (0, 0))) := ⟨by (with_reducible repeat (first | refine blk_drewN ?_ _ | refine blk_drew ?_ | refine blk_alloc ?_ _)); refine blk_far ?_ NB143_150.out _; (with_reducible repeat (first | refine blk_drewN ?_ _ | refine blk_drew ?_ | refine blk_alloc ?_ _)); refine blk_far ?_ NB143_150.out _; (with_reducible repeat (first | refine blk_drewN ?_ _ | refine blk_drew ?_ | refine blk_alloc ?_ _)); refine blk_far ?_ NB143_150.out _; (with_reducible repeat (first | refine blk_drewN ?_ _ | refine blk_drew ?_ | refine blk_alloc ?_ _)); refine blk_far ?_ NB143_150.out _; (with_reducible repeat (first | refine blk_drewN ?_ _ | refine blk_drew ?_ | refine blk_alloc ?_ _)); refine blk_far ?_ NB143_150.out _; (with_reducible repeat (first | refine blk_drewN ?_ _ | refine blk_drew ?_ | refine blk_alloc ?_ _)); refine blk_far ?_ NB143_150.out _; (with_reducible repeat (first | refine blk_drewN ?_ _ | refine blk_drew ?_ | refine blk_alloc ?_ _)); refine blk_far ?_ NB143_150.out _; (with_reducible repeat (first | refine blk_drewN ?_ _ | refine blk_drew ?_ | refine blk_alloc ?_ _)); refine blk_far ?_ NB143_150.out _; (with_reducible repeat (first | refine blk_drewN ?_ _ | refine blk_drew ?_ | refine blk_alloc ?_ _)); refine blk_far ?_ NB143_150.out _; (with_reducible repeat (first | refine blk_drewN ?_ _ | refine blk_drew ?_ | refine blk_alloc ?_ _)); refine blk_far ?_ NB143_150.out _; (with_reducible repeat (first | refine blk_drewN ?_ _ | refine blk_drew ?_ | refine blk_alloc ?_ _)); refine blk_far ?_ NB143_150.out _; (with_reducible repeat (first | refine blk_drewN ?_ _ | refine blk_drew ?_ | refine blk_alloc ?_ _)); exact BK143.out⟩
  have n1_ : Aside0 ((((((((((((w43.setCell ⟨gb150, 0, none⟩ (.int .u32 ((rd_T41 l3 (rd l4 x16_1)).f0.f0))).setCell ⟨gb150, 1, none⟩ (.int .i64 ((rd_T41 l3 (rd l4 x16_1)).f0.f1))).setCell ⟨gb150, 2, none⟩ (.int .i64 ((rd_T41 l3 (rd l4 x16_1)).f1))).setCell ⟨gb150, 3, none⟩ (.int .i64 ((rd_T41 l3 (rd l4 x16_1)).f2.f0))).setCell ⟨gb150, 4, none⟩ (.slice A149_4 ((rd_T41 l3 (rd l4 x16_1)).f2.f1).length c149_4)).setCell ⟨gb150, 5, none⟩ (.int .u32 ((rd_T41 l3 (rd l4 x16_1)).f2.f2))).setCell ⟨gb150, 6, none⟩ (.int .i64 ((rd_T41 l3 (rd l4 x16_1)).f2.f3))).setCell ⟨gb150, 7, none⟩ (.int .i64 ((rd_T41 l3 (rd l4 x16_1)).f2.f4))).setCell ⟨gb150, 8, none⟩ (.slice A149_8 ((rd_T41 l3 (rd l4 x16_1)).f2.f5).length c149_8)).setCell ⟨gb150, 9, none⟩ (.slice A149_9 ((rd_T41 l3 (rd l4 x16_1)).f2.f6).length c149_9)).setCell ⟨gb150, 10, none⟩ (.int .i64 ((rd_T41 l3 (rd l4 x16_1)).f3))).heap[gb150]? = some (.cells #[.int .u32 ((rd_T41 l3 (rd l4 x16_1)).f0.f0), .int .i64 ((rd_T41 l3 (rd l4 x16_1)).f0.f1), .int .i64 ((rd_T41 l3 (rd l4 x16_1)).f1), .int .i64 ((rd_T41 l3 (rd l4 x16_1)).f2.f0), .slice A149_4 ((rd_T41 l3 (rd l4 x16_1)).f2.f1).length c149_4, .int .u32 ((rd_T41 l3 (rd l4 x16_1)).f2.f2), .int .i64 ((rd_T41 l3 (rd l4 x16_1)).f2.f3), .int .i64 ((rd_T41 l3 (rd l4 x16_1)).f2.f4), .slice A149_8 ((rd_T41 l3 (rd l4 x16_1)).f2.f5).length c149_8, .slice A149_9 ((rd_T41 l3 (rd l4 x16_1)).f2.f6).length c149_9, .int .i64 ((rd_T41 l3 (rd l4 x16_1)).f3)] 41 (0, 0))) := ⟨by (with_reducible repeat (first | refine blk_drewN ?_ _ | refine blk_drew ?_ | refine blk_alloc ?_ _)); refine blk_put (cs := #[.int .u32 ((rd_T41 l3 (rd l4 x16_1)).f0.f0), .int .i64 ((rd_T41 l3 (rd l4 x16_1)).f0.f1), .int .i64 ((rd_T41 l3 (rd l4 x16_1)).f1), .int .i64 ((rd_T41 l3 (rd l4 x16_1)).f2.f0), .slice A149_4 ((rd_T41 l3 (rd l4 x16_1)).f2.f1).length c149_4, .int .u32 ((rd_T41 l3 (rd l4 x16_1)).f2.f2), .int .i64 ((rd_T41 l3 (rd l4 x16_1)).f2.f3), .int .i64 ((rd_T41 l3 (rd l4 x16_1)).f2.f4), .slice A149_8 ((rd_T41 l3 (rd l4 x16_1)).f2.f5).length c149_8, .slice A149_9 ((rd_T41 l3 (rd l4 x16_1)).f2.f6).length c149_9, .int .i64 0]) ?_ 10 _ rfl; (with_reducible repeat (first | refine blk_drewN ?_ _ | refine blk_drew ?_ | refine blk_alloc ?_ _)); refine blk_put (cs := #[.int .u32 ((rd_T41 l3 (rd l4 x16_1)).f0.f0), .int .i64 ((rd_T41 l3 (rd l4 x16_1)).f0.f1), .int .i64 ((rd_T41 l3 (rd l4 x16_1)).f1), .int .i64 ((rd_T41 l3 (rd l4 x16_1)).f2.f0), .slice A149_4 ((rd_T41 l3 (rd l4 x16_1)).f2.f1).length c149_4, .int .u32 ((rd_T41 l3 (rd l4 x16_1)).f2.f2), .int .i64 ((rd_T41 l3 (rd l4 x16_1)).f2.f3), .int .i64 ((rd_T41 l3 (rd l4 x16_1)).f2.f4), .slice A149_8 ((rd_T41 l3 (rd l4 x16_1)).f2.f5).length c149_8, .slice none 0 0, .int .i64 0]) ?_ 9 _ rfl; (with_reducible repeat (first | refine blk_drewN ?_ _ | refine blk_drew ?_ | refine blk_alloc ?_ _)); refine blk_put (cs := #[.int .u32 ((rd_T41 l3 (rd l4 x16_1)).f0.f0), .int .i64 ((rd_T41 l3 (rd l4 x16_1)).f0.f1), .int .i64 ((rd_T41 l3 (rd l4 x16_1)).f1), .int .i64 ((rd_T41 l3 (rd l4 x16_1)).f2.f0), .slice A149_4 ((rd_T41 l3 (rd l4 x16_1)).f2.f1).length c149_4, .int .u32 ((rd_T41 l3 (rd l4 x16_1)).f2.f2), .int .i64 ((rd_T41 l3 (rd l4 x16_1)).f2.f3), .int .i64 ((rd_T41 l3 (rd l4 x16_1)).f2.f4), .slice none 0 0, .slice none 0 0, .int .i64 0]) ?_ 8 _ rfl; (with_reducible repeat (first | refine blk_drewN ?_ _ | refine blk_drew ?_ | refine blk_alloc ?_ _)); refine blk_put (cs := #[.int .u32 ((rd_T41 l3 (rd l4 x16_1)).f0.f0), .int .i64 ((rd_T41 l3 (rd l4 x16_1)).f0.f1), .int .i64 ((rd_T41 l3 (rd l4 x16_1)).f1), .int .i64 ((rd_T41 l3 (rd l4 x16_1)).f2.f0), .slice A149_4 ((rd_T41 l3 (rd l4 x16_1)).f2.f1).length c149_4, .int .u32 ((rd_T41 l3 (rd l4 x16_1)).f2.f2), .int .i64 ((rd_T41 l3 (rd l4 x16_1)).f2.f3), .int .i64 0, .slice none 0 0, .slice none 0 0, .int .i64 0]) ?_ 7 _ rfl; (with_reducible repeat (first | refine blk_drewN ?_ _ | refine blk_drew ?_ | refine blk_alloc ?_ _)); refine blk_put (cs := #[.int .u32 ((rd_T41 l3 (rd l4 x16_1)).f0.f0), .int .i64 ((rd_T41 l3 (rd l4 x16_1)).f0.f1), .int .i64 ((rd_T41 l3 (rd l4 x16_1)).f1), .int .i64 ((rd_T41 l3 (rd l4 x16_1)).f2.f0), .slice A149_4 ((rd_T41 l3 (rd l4 x16_1)).f2.f1).length c149_4, .int .u32 ((rd_T41 l3 (rd l4 x16_1)).f2.f2), .int .i64 0, .int .i64 0, .slice none 0 0, .slice none 0 0, .int .i64 0]) ?_ 6 _ rfl; (with_reducible repeat (first | refine blk_drewN ?_ _ | refine blk_drew ?_ | refine blk_alloc ?_ _)); refine blk_put (cs := #[.int .u32 ((rd_T41 l3 (rd l4 x16_1)).f0.f0), .int .i64 ((rd_T41 l3 (rd l4 x16_1)).f0.f1), .int .i64 ((rd_T41 l3 (rd l4 x16_1)).f1), .int .i64 ((rd_T41 l3 (rd l4 x16_1)).f2.f0), .slice A149_4 ((rd_T41 l3 (rd l4 x16_1)).f2.f1).length c149_4, .int .u32 0, .int .i64 0, .int .i64 0, .slice none 0 0, .slice none 0 0, .int .i64 0]) ?_ 5 _ rfl; (with_reducible repeat (first | refine blk_drewN ?_ _ | refine blk_drew ?_ | refine blk_alloc ?_ _)); refine blk_put (cs := #[.int .u32 ((rd_T41 l3 (rd l4 x16_1)).f0.f0), .int .i64 ((rd_T41 l3 (rd l4 x16_1)).f0.f1), .int .i64 ((rd_T41 l3 (rd l4 x16_1)).f1), .int .i64 ((rd_T41 l3 (rd l4 x16_1)).f2.f0), .slice none 0 0, .int .u32 0, .int .i64 0, .int .i64 0, .slice none 0 0, .slice none 0 0, .int .i64 0]) ?_ 4 _ rfl; (with_reducible repeat (first | refine blk_drewN ?_ _ | refine blk_drew ?_ | refine blk_alloc ?_ _)); refine blk_put (cs := #[.int .u32 ((rd_T41 l3 (rd l4 x16_1)).f0.f0), .int .i64 ((rd_T41 l3 (rd l4 x16_1)).f0.f1), .int .i64 ((rd_T41 l3 (rd l4 x16_1)).f1), .int .i64 0, .slice none 0 0, .int .u32 0, .int .i64 0, .int .i64 0, .slice none 0 0, .slice none 0 0, .int .i64 0]) ?_ 3 _ rfl; (with_reducible repeat (first | refine blk_drewN ?_ _ | refine blk_drew ?_ | refine blk_alloc ?_ _)); refine blk_put (cs := #[.int .u32 ((rd_T41 l3 (rd l4 x16_1)).f0.f0), .int .i64 ((rd_T41 l3 (rd l4 x16_1)).f0.f1), .int .i64 0, .int .i64 0, .slice none 0 0, .int .u32 0, .int .i64 0, .int .i64 0, .slice none 0 0, .slice none 0 0, .int .i64 0]) ?_ 2 _ rfl; (with_reducible repeat (first | refine blk_drewN ?_ _ | refine blk_drew ?_ | refine blk_alloc ?_ _)); refine blk_put (cs := #[.int .u32 ((rd_T41 l3 (rd l4 x16_1)).f0.f0), .int .i64 0, .int .i64 0, .int .i64 0, .slice none 0 0, .int .u32 0, .int .i64 0, .int .i64 0, .slice none 0 0, .slice none 0 0, .int .i64 0]) ?_ 1 _ rfl; (with_reducible repeat (first | refine blk_drewN ?_ _ | refine blk_drew ?_ | refine blk_alloc ?_ _)); refine blk_put (cs := #[.int .u32 0, .int .i64 0, .int .i64 0, .int .i64 0, .slice none 0 0, .int .u32 0, .int .i64 0, .int .i64 0, .slice none 0 0, .slice none 0 0, .int .i64 0]) ?_ 0 _ rfl; (with_reducible repeat (first | refine blk_drewN ?_ _ | refine blk_drew ?_ | refine blk_alloc ?_ _)); exact BK150.out⟩
  have n2_ : Aside0 (Below w.heap.size w (((((((((((w43.setCell ⟨gb150, 0, none⟩ (.int .u32 ((rd_T41 l3 (rd l4 x16_1)).f0.f0))).setCell ⟨gb150, 1, none⟩ (.int .i64 ((rd_T41 l3 (rd l4 x16_1)).f0.f1))).setCell ⟨gb150, 2, none⟩ (.int .i64 ((rd_T41 l3 (rd l4 x16_1)).f1))).setCell ⟨gb150, 3, none⟩ (.int .i64 ((rd_T41 l3 (rd l4 x16_1)).f2.f0))).setCell ⟨gb150, 4, none⟩ (.slice A149_4 ((rd_T41 l3 (rd l4 x16_1)).f2.f1).length c149_4)).setCell ⟨gb150, 5, none⟩ (.int .u32 ((rd_T41 l3 (rd l4 x16_1)).f2.f2))).setCell ⟨gb150, 6, none⟩ (.int .i64 ((rd_T41 l3 (rd l4 x16_1)).f2.f3))).setCell ⟨gb150, 7, none⟩ (.int .i64 ((rd_T41 l3 (rd l4 x16_1)).f2.f4))).setCell ⟨gb150, 8, none⟩ (.slice A149_8 ((rd_T41 l3 (rd l4 x16_1)).f2.f5).length c149_8)).setCell ⟨gb150, 9, none⟩ (.slice A149_9 ((rd_T41 l3 (rd l4 x16_1)).f2.f6).length c149_9)).setCell ⟨gb150, 10, none⟩ (.int .i64 ((rd_T41 l3 (rd l4 x16_1)).f3)))) := ⟨by repeat (first | (with_reducible first | exact HB.out | apply below_alloc | apply pw_below_drewN | apply below_drew1 | refine below_set ?_ GE143.out | refine below_set ?_ GE150.out) | exact HB.out)⟩
  (try clear BK143)
  (try clear BK150)
  (try clear HB)
  generalize (((((((((((w43.setCell ⟨gb150, 0, none⟩ (.int .u32 ((rd_T41 l3 (rd l4 x16_1)).f0.f0))).setCell ⟨gb150, 1, none⟩ (.int .i64 ((rd_T41 l3 (rd l4 x16_1)).f0.f1))).setCell ⟨gb150, 2, none⟩ (.int .i64 ((rd_T41 l3 (rd l4 x16_1)).f1))).setCell ⟨gb150, 3, none⟩ (.int .i64 ((rd_T41 l3 (rd l4 x16_1)).f2.f0))).setCell ⟨gb150, 4, none⟩ (.slice A149_4 ((rd_T41 l3 (rd l4 x16_1)).f2.f1).length c149_4)).setCell ⟨gb150, 5, none⟩ (.int .u32 ((rd_T41 l3 (rd l4 x16_1)).f2.f2))).setCell ⟨gb150, 6, none⟩ (.int .i64 ((rd_T41 l3 (rd l4 x16_1)).f2.f3))).setCell ⟨gb150, 7, none⟩ (.int .i64 ((rd_T41 l3 (rd l4 x16_1)).f2.f4))).setCell ⟨gb150, 8, none⟩ (.slice A149_8 ((rd_T41 l3 (rd l4 x16_1)).f2.f5).length c149_8)).setCell ⟨gb150, 9, none⟩ (.slice A149_9 ((rd_T41 l3 (rd l4 x16_1)).f2.f6).length c149_9)).setCell ⟨gb150, 10, none⟩ (.int .i64 ((rd_T41 l3 (rd l4 x16_1)).f3))) = w51 at n0_ n1_ n2_ ⊢
  have BK143 := n0_
  have BK150 := n1_
  have HB := n2_
  clear n0_ n1_ n2_
  refine start_ (n := 18) (S := fun w' => w'.cell? ⟨gb150, 0, none⟩ = some (.int .u32 ((rd_T41 l3 (rd l4 x16_1)).f0.f0)) ∧ w'.cell? ⟨gb150, 1, none⟩ = some (.int .i64 ((rd_T41 l3 (rd l4 x16_1)).f0.f1)) ∧ w'.cell? ⟨gb150, 2, none⟩ = some (.int .i64 ((rd_T41 l3 (rd l4 x16_1)).f1)) ∧ w'.cell? ⟨gb150, 3, none⟩ = some (.int .i64 ((rd_T41 l3 (rd l4 x16_1)).f2.f0)) ∧ w'.cell? ⟨gb150, 4, none⟩ = some (.slice A149_4 ((rd_T41 l3 (rd l4 x16_1)).f2.f1).length c149_4) ∧ w'.cell? ⟨gb150, 5, none⟩ = some (.int .u32 ((rd_T41 l3 (rd l4 x16_1)).f2.f2)) ∧ w'.cell? ⟨gb150, 6, none⟩ = some (.int .i64 ((rd_T41 l3 (rd l4 x16_1)).f2.f3)) ∧ w'.cell? ⟨gb150, 7, none⟩ = some (.int .i64 ((rd_T41 l3 (rd l4 x16_1)).f2.f4)) ∧ w'.cell? ⟨gb150, 8, none⟩ = some (.slice A149_8 ((rd_T41 l3 (rd l4 x16_1)).f2.f5).length c149_8) ∧ w'.cell? ⟨gb150, 9, none⟩ = some (.slice A149_9 ((rd_T41 l3 (rd l4 x16_1)).f2.f6).length c149_9) ∧ w'.cell? ⟨gb150, 10, none⟩ = some (.int .i64 ((rd_T41 l3 (rd l4 x16_1)).f3)) ∧ w'.cell? ⟨gb143, 0, none⟩ = some (.int .u32 ((rd_T41 l3 a5).f0.f0)) ∧ w'.cell? ⟨gb143, 1, none⟩ = some (.int .i64 ((rd_T41 l3 a5).f0.f1)) ∧ w'.cell? ⟨gb143, 2, none⟩ = some (.int .i64 ((rd_T41 l3 a5).f1)) ∧ w'.cell? ⟨gb143, 3, none⟩ = some (.int .i64 ((rd_T41 l3 a5).f2.f0)) ∧ w'.cell? ⟨gb143, 4, none⟩ = some (.slice A142_4 ((rd_T41 l3 a5).f2.f1).length c142_4) ∧ w'.cell? ⟨gb143, 5, none⟩ = some (.int .u32 ((rd_T41 l3 a5).f2.f2)) ∧ w'.cell? ⟨gb143, 6, none⟩ = some (.int .i64 ((rd_T41 l3 a5).f2.f3)) ∧ w'.cell? ⟨gb143, 7, none⟩ = some (.int .i64 ((rd_T41 l3 a5).f2.f4)) ∧ w'.cell? ⟨gb143, 8, none⟩ = some (.slice A142_8 ((rd_T41 l3 a5).f2.f5).length c142_8) ∧ w'.cell? ⟨gb143, 9, none⟩ = some (.slice A142_9 ((rd_T41 l3 a5).f2.f6).length c142_9) ∧ w'.cell? ⟨gb143, 10, none⟩ = some (.int .i64 ((rd_T41 l3 a5).f3))) (ds := []) #[F_,F_,F_,F_,F_,F_,F_,F_,F_,F_,F_,F_,F_,F_,F_,F_,F_,F_] (by kernel_rfl) rfl rfl ⟨(blk_cell BK150.out 0).trans rfl, (blk_cell BK150.out 1).trans rfl, (blk_cell BK150.out 2).trans rfl, (blk_cell BK150.out 3).trans rfl, (blk_cell BK150.out 4).trans rfl, (blk_cell BK150.out 5).trans rfl, (blk_cell BK150.out 6).trans rfl, (blk_cell BK150.out 7).trans rfl, (blk_cell BK150.out 8).trans rfl, (blk_cell BK150.out 9).trans rfl, (blk_cell BK150.out 10).trans rfl, (blk_cell BK143.out 0).trans rfl, (blk_cell BK143.out 1).trans rfl, (blk_cell BK143.out 2).trans rfl, (blk_cell BK143.out 3).trans rfl, (blk_cell BK143.out 4).trans rfl, (blk_cell BK143.out 5).trans rfl, (blk_cell BK143.out 6).trans rfl, (blk_cell BK143.out 7).trans rfl, (blk_cell BK143.out 8).trans rfl, (blk_cell BK143.out 9).trans rfl, (blk_cell BK143.out 10).trans rfl⟩ (fun hHeld => ?_); refine with_tabW interregnumref11_score.tab24 interregnumref11_score.bits24 (fun HT_ HW_ => ?_)
  refine pure_ (i := 0) (N := some 81) (v := ?_) (a' := ?_) #[T_,F_,F_,F_,F_,F_,F_,F_,F_,F_,F_,F_,F_,F_,F_,F_,F_,F_] rfl rfl (any_of HT_.out (by kernel_rfl)) (fun _ _ _ h => h) (Or.inl ⟨by rfl, ?_⟩) ?_ ?_
  rotate_left
  ·intro w'
   go_simp
   with_reducible rfl
  rotate_left
  ·simp only [Act.put, q1_, q2_, q3_, i64_w, i32_w]
   rfl
  refine pure_ (i := 1) (N := some 82) (v := ?_) (a' := ?_) #[T_,T_,F_,F_,F_,F_,F_,F_,F_,F_,F_,F_,F_,F_,F_,F_,F_,F_] rfl rfl (any_of HT_.out (by kernel_rfl)) (fun _ _ _ h => h) (Or.inl ⟨by rfl, ?_⟩) ?_ ?_
  rotate_left
  ·intro w'
   go_simp
   with_reducible rfl
  rotate_left
  ·simp only [Act.put, q1_, q2_, q3_, i64_w, i32_w]
   rfl
  refine pure_ (i := 2) (N := some 83) (v := ?_) (a' := ?_) #[T_,T_,T_,F_,F_,F_,F_,F_,F_,F_,F_,F_,F_,F_,F_,F_,F_,F_] rfl rfl (any_of HT_.out (by kernel_rfl)) (fun _ _ _ h => h) (Or.inl ⟨by rfl, ?_⟩) ?_ ?_
  rotate_left
  ·intro w'
   go_simp
   with_reducible rfl
  rotate_left
  ·simp only [Act.put, q1_, q2_, q3_, i64_w, i32_w]
   rfl
  refine pure_ (i := 3) (N := some 84) (v := ?_) (a' := ?_) #[T_,T_,T_,T_,F_,F_,F_,F_,F_,F_,F_,F_,F_,F_,F_,F_,F_,F_] rfl rfl (any_of HT_.out (by kernel_rfl)) (fun _ _ _ h => h) (Or.inl ⟨by rfl, ?_⟩) ?_ ?_
  rotate_left
  ·intro w'
   go_simp
   with_reducible rfl
  rotate_left
  ·simp only [Act.put, q1_, q2_, q3_, i64_w, i32_w]
   rfl
  refine pure_ (i := 4) (N := some 85) (v := ?_) (a' := ?_) #[T_,T_,T_,T_,T_,F_,F_,F_,F_,F_,F_,F_,F_,F_,F_,F_,F_,F_] rfl rfl (any_of HT_.out (by kernel_rfl)) (fun _ _ _ h => h) (Or.inl ⟨by rfl, ?_⟩) ?_ ?_
  rotate_left
  ·intro w'
   go_simp
   with_reducible rfl
  rotate_left
  ·simp only [Act.put, q1_, q2_, q3_, i64_w, i32_w]
   rfl
  refine pure_ (i := 5) (N := some 86) (v := ?_) (a' := ?_) #[T_,T_,T_,T_,T_,T_,F_,F_,F_,F_,F_,F_,F_,F_,F_,F_,F_,F_] rfl rfl (any_of HT_.out (by kernel_rfl)) (fun _ _ _ h => h) (Or.inl ⟨by rfl, ?_⟩) ?_ ?_
  rotate_left
  ·intro w'
   go_simp
   with_reducible rfl
  rotate_left
  ·simp only [Act.put, q1_, q2_, q3_, i64_w, i32_w]
   rfl
  refine pure_ (i := 6) (N := some 87) (v := ?_) (a' := ?_) #[T_,T_,T_,T_,T_,T_,T_,F_,F_,F_,F_,F_,F_,F_,F_,F_,F_,F_] rfl rfl (any_of HT_.out (by kernel_rfl)) (fun _ _ _ h => h) (Or.inl ⟨by rfl, ?_⟩) ?_ ?_
  rotate_left
  ·intro w'
   go_simp
   with_reducible rfl
  rotate_left
  ·simp only [Act.put, q1_, q2_, q3_, i64_w, i32_w]
   rfl
  refine pure_ (i := 7) (N := some 88) (v := ?_) (a' := ?_) #[T_,T_,T_,T_,T_,T_,T_,T_,F_,F_,F_,F_,F_,F_,F_,F_,F_,F_] rfl rfl (any_of HT_.out (by kernel_rfl)) (fun _ _ _ h => h) (Or.inl ⟨by rfl, ?_⟩) ?_ ?_
  rotate_left
  ·intro w'
   go_simp
   with_reducible rfl
  rotate_left
  ·simp only [Act.put, q1_, q2_, q3_, i64_w, i32_w]
   rfl
  refine pure_ (i := 8) (N := some 89) (v := ?_) (a' := ?_) #[T_,T_,T_,T_,T_,T_,T_,T_,T_,F_,F_,F_,F_,F_,F_,F_,F_,F_] rfl rfl (any_of HT_.out (by kernel_rfl)) (fun _ _ _ h => h) (Or.inl ⟨by rfl, ?_⟩) ?_ ?_
  rotate_left
  ·intro w'
   go_simp
   with_reducible rfl
  rotate_left
  ·simp only [Act.put, q1_, q2_, q3_, i64_w, i32_w]
   rfl
  refine pure_ (i := 9) (N := some 90) (v := ?_) (a' := ?_) #[T_,T_,T_,T_,T_,T_,T_,T_,T_,T_,F_,F_,F_,F_,F_,F_,F_,F_] rfl rfl (any_of HT_.out (by kernel_rfl)) (fun _ _ _ h => h) (Or.inl ⟨by rfl, ?_⟩) ?_ ?_
  rotate_left
  ·intro w'
   go_simp
   with_reducible rfl
  rotate_left
  ·simp only [Act.put, q1_, q2_, q3_, i64_w, i32_w]
   rfl
  refine pure_ (i := 10) (N := some 91) (v := ?_) (a' := ?_) #[T_,T_,T_,T_,T_,T_,T_,T_,T_,T_,T_,F_,F_,F_,F_,F_,F_,F_] rfl rfl (any_of HT_.out (by kernel_rfl)) (fun _ _ _ h => h) (Or.inl ⟨by rfl, ?_⟩) ?_ ?_
  rotate_left
  ·intro w'
   go_simp
   with_reducible rfl
  rotate_left
  ·simp only [Act.put, q1_, q2_, q3_, i64_w, i32_w]
   rfl
  refine pure_ (i := 13) (N := some 94) (v := ?_) (a' := ?_) #[T_,T_,T_,T_,T_,T_,T_,T_,T_,T_,T_,F_,F_,T_,F_,F_,F_,F_] rfl rfl (any_of HT_.out (by kernel_rfl)) (fun _ _ _ h => h) (Or.inl ⟨by rfl, ?_⟩) ?_ ?_
  rotate_left
  ·intro w'
   go_simp
   with_reducible rfl
  rotate_left
  ·simp only [Act.put, q1_, q2_, q3_, i64_w, i32_w]
   rfl
  refine take_ (i := 11) (N := some 92) (v := ?_) (a' := ?_) #[T_,T_,T_,T_,T_,T_,T_,T_,T_,T_,T_,T_,F_,T_,F_,F_,F_,F_] rfl rfl (take_ofW HT_.out HW_.out (by kernel_rfl)) (fun _ _ _ h => h) (Or.inl ⟨by rfl, ?_⟩) hHeld ?_ ?_
  rotate_left
  ·rintro w' ⟨s0, s1, s2, s3, s4, s5, s6, s7, s8, s9, s10, s11, s12, s13, s14, s15, s16, s17, s18, s19, s20, s21⟩
   go_simp
   with_reducible rfl
  rotate_left
  ·simp only [Act.put, q1_, q2_, q3_, i64_w, i32_w]
   rfl
  refine take_ (i := 14) (N := some 95) (v := ?_) (a' := ?_) #[T_,T_,T_,T_,T_,T_,T_,T_,T_,T_,T_,T_,F_,T_,T_,F_,F_,F_] rfl rfl (take_ofW HT_.out HW_.out (by kernel_rfl)) (fun _ _ _ h => h) (Or.inl ⟨by rfl, ?_⟩) hHeld ?_ ?_
  rotate_left
  ·rintro w' ⟨s0, s1, s2, s3, s4, s5, s6, s7, s8, s9, s10, s11, s12, s13, s14, s15, s16, s17, s18, s19, s20, s21⟩
   go_simp
   with_reducible rfl
  rotate_left
  ·simp only [Act.put, q1_, q2_, q3_, i64_w, i32_w]
   rfl
  refine one_ (i := 12) (N := some 93) #[T_,T_,T_,T_,T_,T_,T_,T_,T_,T_,T_,T_,T_,T_,T_,F_,F_,F_] rfl rfl (one_of HT_.out (by kernel_rfl)) (by decide) (fun K hK => ?_)
  refine goes_ Try.func44 (by kernel_rfl) rfl #[.agg #[.int .i64 ((rd_T41 l3 (rd l4 x16_1)).f2.f0), .slice A149_4 ((rd_T41 l3 (rd l4 x16_1)).f2.f1).length c149_4, .int .u32 ((rd_T41 l3 (rd l4 x16_1)).f2.f2), .int .i64 ((rd_T41 l3 (rd l4 x16_1)).f2.f3), .int .i64 ((rd_T41 l3 (rd l4 x16_1)).f2.f4), .slice A149_8 ((rd_T41 l3 (rd l4 x16_1)).f2.f5).length c149_8, .slice A149_9 ((rd_T41 l3 (rd l4 x16_1)).f2.f6).length c149_9]] (by rfl) rfl rfl (by (try simp only [List.map_toArray, List.map_cons, List.map_nil]); first | done | rfl | (simp only [List.length_drop, List.length_take]; rfl)) ?_
  with_reducible refine (interregnumref11_med.calls ((rd_T41 l3 (rd l4 x16_1)).f2.f0) _ _ ((rd_T41 l3 (rd l4 x16_1)).f2.f1) ((rd_T41 l3 (rd l4 x16_1)).f2.f2) ((rd_T41 l3 (rd l4 x16_1)).f2.f3) ((rd_T41 l3 (rd l4 x16_1)).f2.f4) _ _ ((rd_T41 l3 (rd l4 x16_1)).f2.f5) _ _ ((rd_T41 l3 (rd l4 x16_1)).f2.f6) t153 _ ?side1 ?side2 ?side3 ?side4 ?side5 ?side6 A49.out).mono ?_
  (case side1 => repeat (first | exact (Kd.C_below HR149_4.out HB.out) | (with_reducible refine Kd.C_alloc ?_ _) | (with_reducible refine Kd.C_drewN ?_ _) | (with_reducible refine Kd.C_drew ?_)))
  (case side2 => exact HC149_4.out)
  (case side3 => repeat (first | exact (Kd.C_below HR149_8.out HB.out) | (with_reducible refine Kd.C_alloc ?_ _) | (with_reducible refine Kd.C_drewN ?_ _) | (with_reducible refine Kd.C_drew ?_)))
  (case side4 => exact HC149_8.out)
  (case side5 => repeat (first | exact (Kd.C_below HR149_9.out HB.out) | (with_reducible refine Kd.C_alloc ?_ _) | (with_reducible refine Kd.C_drewN ?_ _) | (with_reducible refine Kd.C_drew ?_)))
  (case side6 => exact HC149_9.out)
  rintro e w53 ⟨rfl, hb⟩
  refine ⟨_, rfl, ?_⟩
  have n0_ := Aside0.mk (blk_below (g := gb143) (o := .cells #[.int .u32 ((rd_T41 l3 a5).f0.f0), .int .i64 ((rd_T41 l3 a5).f0.f1), .int .i64 ((rd_T41 l3 a5).f1), .int .i64 ((rd_T41 l3 a5).f2.f0), .slice A142_4 ((rd_T41 l3 a5).f2.f1).length c142_4, .int .u32 ((rd_T41 l3 a5).f2.f2), .int .i64 ((rd_T41 l3 a5).f2.f3), .int .i64 ((rd_T41 l3 a5).f2.f4), .slice A142_8 ((rd_T41 l3 a5).f2.f5).length c142_8, .slice A142_9 ((rd_T41 l3 a5).f2.f6).length c142_9, .int .i64 ((rd_T41 l3 a5).f3)] 41 (0, 0)) (by (with_reducible repeat (first | refine blk_drewN ?_ _ | refine blk_drew ?_ | refine blk_alloc ?_ _)); exact BK143.out) hb)
  have n1_ := Aside0.mk (blk_below (g := gb150) (o := .cells #[.int .u32 ((rd_T41 l3 (rd l4 x16_1)).f0.f0), .int .i64 ((rd_T41 l3 (rd l4 x16_1)).f0.f1), .int .i64 ((rd_T41 l3 (rd l4 x16_1)).f1), .int .i64 ((rd_T41 l3 (rd l4 x16_1)).f2.f0), .slice A149_4 ((rd_T41 l3 (rd l4 x16_1)).f2.f1).length c149_4, .int .u32 ((rd_T41 l3 (rd l4 x16_1)).f2.f2), .int .i64 ((rd_T41 l3 (rd l4 x16_1)).f2.f3), .int .i64 ((rd_T41 l3 (rd l4 x16_1)).f2.f4), .slice A149_8 ((rd_T41 l3 (rd l4 x16_1)).f2.f5).length c149_8, .slice A149_9 ((rd_T41 l3 (rd l4 x16_1)).f2.f6).length c149_9, .int .i64 ((rd_T41 l3 (rd l4 x16_1)).f3)] 41 (0, 0)) (by (with_reducible repeat (first | refine blk_drewN ?_ _ | refine blk_drew ?_ | refine blk_alloc ?_ _)); exact BK150.out) hb)
  have n2_ := Aside0.mk (below_step (by repeat (first | (with_reducible first | exact HB.out | apply below_alloc | apply pw_below_drewN | apply below_drew1 | refine below_set ?_ GE143.out | refine below_set ?_ GE150.out) | exact HB.out)) hb)
  clear BK143
  clear BK150
  clear HB
  have BK143 := n0_
  have BK150 := n1_
  have HB := n2_
  clear n0_ n1_ n2_
  (try clear hb)
  (try clear hb2)
  (try clear hk)
  (try clear hi)
  refine hK.out _ _ ⟨(blk_cell BK150.out 0).trans rfl, (blk_cell BK150.out 1).trans rfl, (blk_cell BK150.out 2).trans rfl, (blk_cell BK150.out 3).trans rfl, (blk_cell BK150.out 4).trans rfl, (blk_cell BK150.out 5).trans rfl, (blk_cell BK150.out 6).trans rfl, (blk_cell BK150.out 7).trans rfl, (blk_cell BK150.out 8).trans rfl, (blk_cell BK150.out 9).trans rfl, (blk_cell BK150.out 10).trans rfl, (blk_cell BK143.out 0).trans rfl, (blk_cell BK143.out 1).trans rfl, (blk_cell BK143.out 2).trans rfl, (blk_cell BK143.out 3).trans rfl, (blk_cell BK143.out 4).trans rfl, (blk_cell BK143.out 5).trans rfl, (blk_cell BK143.out 6).trans rfl, (blk_cell BK143.out 7).trans rfl, (blk_cell BK143.out 8).trans rfl, (blk_cell BK143.out 9).trans rfl, (blk_cell BK143.out 10).trans rfl⟩ (fun hHeld => ?_)
  clear hK K
  refine norm_ (a' := ?_) ?_ ?_
  rotate_left
  ·show Act.put _ (some 93) _ = _
   simp only [Act.put, q1_, q2_, q3_, i64_w, i32_w]
   rfl
  refine one_ (i := 15) (N := some 96) #[T_,T_,T_,T_,T_,T_,T_,T_,T_,T_,T_,T_,T_,T_,T_,T_,F_,F_] rfl rfl (one_of HT_.out (by kernel_rfl)) (by decide) (fun K hK => ?_)
  refine goes_ Try.func44 (by kernel_rfl) rfl #[.agg #[.int .i64 ((rd_T41 l3 a5).f2.f0), .slice A142_4 ((rd_T41 l3 a5).f2.f1).length c142_4, .int .u32 ((rd_T41 l3 a5).f2.f2), .int .i64 ((rd_T41 l3 a5).f2.f3), .int .i64 ((rd_T41 l3 a5).f2.f4), .slice A142_8 ((rd_T41 l3 a5).f2.f5).length c142_8, .slice A142_9 ((rd_T41 l3 a5).f2.f6).length c142_9]] (by rfl) rfl rfl (by (try simp only [List.map_toArray, List.map_cons, List.map_nil]); first | done | rfl | (simp only [List.length_drop, List.length_take]; rfl)) ?_
  with_reducible refine (interregnumref11_med.calls ((rd_T41 l3 a5).f2.f0) _ _ ((rd_T41 l3 a5).f2.f1) ((rd_T41 l3 a5).f2.f2) ((rd_T41 l3 a5).f2.f3) ((rd_T41 l3 a5).f2.f4) _ _ ((rd_T41 l3 a5).f2.f5) _ _ ((rd_T41 l3 a5).f2.f6) t154 _ ?side1 ?side2 ?side3 ?side4 ?side5 ?side6 A50.out).mono ?_
  (case side1 => repeat (first | exact (Kd.C_below HR142_4.out HB.out) | (with_reducible refine Kd.C_alloc ?_ _) | (with_reducible refine Kd.C_drewN ?_ _) | (with_reducible refine Kd.C_drew ?_)))
  (case side2 => exact HC142_4.out)
  (case side3 => repeat (first | exact (Kd.C_below HR142_8.out HB.out) | (with_reducible refine Kd.C_alloc ?_ _) | (with_reducible refine Kd.C_drewN ?_ _) | (with_reducible refine Kd.C_drew ?_)))
  (case side4 => exact HC142_8.out)
  (case side5 => repeat (first | exact (Kd.C_below HR142_9.out HB.out) | (with_reducible refine Kd.C_alloc ?_ _) | (with_reducible refine Kd.C_drewN ?_ _) | (with_reducible refine Kd.C_drew ?_)))
  (case side6 => exact HC142_9.out)
  rintro e w54 ⟨rfl, hb⟩
  refine ⟨_, rfl, ?_⟩
  have n0_ := Aside0.mk (blk_below (g := gb143) (o := .cells #[.int .u32 ((rd_T41 l3 a5).f0.f0), .int .i64 ((rd_T41 l3 a5).f0.f1), .int .i64 ((rd_T41 l3 a5).f1), .int .i64 ((rd_T41 l3 a5).f2.f0), .slice A142_4 ((rd_T41 l3 a5).f2.f1).length c142_4, .int .u32 ((rd_T41 l3 a5).f2.f2), .int .i64 ((rd_T41 l3 a5).f2.f3), .int .i64 ((rd_T41 l3 a5).f2.f4), .slice A142_8 ((rd_T41 l3 a5).f2.f5).length c142_8, .slice A142_9 ((rd_T41 l3 a5).f2.f6).length c142_9, .int .i64 ((rd_T41 l3 a5).f3)] 41 (0, 0)) (by (with_reducible repeat (first | refine blk_drewN ?_ _ | refine blk_drew ?_ | refine blk_alloc ?_ _)); exact BK143.out) hb)
  have n1_ := Aside0.mk (blk_below (g := gb150) (o := .cells #[.int .u32 ((rd_T41 l3 (rd l4 x16_1)).f0.f0), .int .i64 ((rd_T41 l3 (rd l4 x16_1)).f0.f1), .int .i64 ((rd_T41 l3 (rd l4 x16_1)).f1), .int .i64 ((rd_T41 l3 (rd l4 x16_1)).f2.f0), .slice A149_4 ((rd_T41 l3 (rd l4 x16_1)).f2.f1).length c149_4, .int .u32 ((rd_T41 l3 (rd l4 x16_1)).f2.f2), .int .i64 ((rd_T41 l3 (rd l4 x16_1)).f2.f3), .int .i64 ((rd_T41 l3 (rd l4 x16_1)).f2.f4), .slice A149_8 ((rd_T41 l3 (rd l4 x16_1)).f2.f5).length c149_8, .slice A149_9 ((rd_T41 l3 (rd l4 x16_1)).f2.f6).length c149_9, .int .i64 ((rd_T41 l3 (rd l4 x16_1)).f3)] 41 (0, 0)) (by (with_reducible repeat (first | refine blk_drewN ?_ _ | refine blk_drew ?_ | refine blk_alloc ?_ _)); exact BK150.out) hb)
  have n2_ := Aside0.mk (below_step (by repeat (first | (with_reducible first | exact HB.out | apply below_alloc | apply pw_below_drewN | apply below_drew1 | refine below_set ?_ GE143.out | refine below_set ?_ GE150.out) | exact HB.out)) hb)
  clear BK143
  clear BK150
  clear HB
  have BK143 := n0_
  have BK150 := n1_
  have HB := n2_
  clear n0_ n1_ n2_
  (try clear hb)
  (try clear hb2)
  (try clear hk)
  (try clear hi)
  refine hK.out _ _ ⟨(blk_cell BK150.out 0).trans rfl, (blk_cell BK150.out 1).trans rfl, (blk_cell BK150.out 2).trans rfl, (blk_cell BK150.out 3).trans rfl, (blk_cell BK150.out 4).trans rfl, (blk_cell BK150.out 5).trans rfl, (blk_cell BK150.out 6).trans rfl, (blk_cell BK150.out 7).trans rfl, (blk_cell BK150.out 8).trans rfl, (blk_cell BK150.out 9).trans rfl, (blk_cell BK150.out 10).trans rfl, (blk_cell BK143.out 0).trans rfl, (blk_cell BK143.out 1).trans rfl, (blk_cell BK143.out 2).trans rfl, (blk_cell BK143.out 3).trans rfl, (blk_cell BK143.out 4).trans rfl, (blk_cell BK143.out 5).trans rfl, (blk_cell BK143.out 6).trans rfl, (blk_cell BK143.out 7).trans rfl, (blk_cell BK143.out 8).trans rfl, (blk_cell BK143.out 9).trans rfl, (blk_cell BK143.out 10).trans rfl⟩ (fun hHeld => ?_)
  clear hK K
  refine norm_ (a' := ?_) ?_ ?_
  rotate_left
  ·show Act.put _ (some 96) _ = _
   simp only [Act.put, q1_, q2_, q3_, i64_w, i32_w]
   rfl
  refine pure_ (i := 16) (N := some 97) (v := ?_) (a' := ?_) #[T_,T_,T_,T_,T_,T_,T_,T_,T_,T_,T_,T_,T_,T_,T_,T_,T_,F_] rfl rfl (any_of HT_.out (by kernel_rfl)) (fun _ _ _ h => h) (Or.inl ⟨by rfl, ?_⟩) ?_ ?_
  rotate_left
  ·intro w'
   go_simp
   with_reducible rfl
  rotate_left
  ·simp only [Act.put, q1_, q2_, q3_, i64_w, i32_w]
   rfl
  refine pure_ (i := 17) (N := some 98) (v := ?_) (a' := ?_) #[T_,T_,T_,T_,T_,T_,T_,T_,T_,T_,T_,T_,T_,T_,T_,T_,T_,T_] rfl rfl (any_of HT_.out (by kernel_rfl)) (fun _ _ _ h => h) (Or.inl ⟨by rfl, ?_⟩) ?_ ?_
  rotate_left
  ·intro w'
   go_simp
   with_reducible rfl
  rotate_left
  ·simp only [Act.put, q1_, q2_, q3_, i64_w, i32_w]
   rfl
  refine done_ (done_of HT_.out (by kernel_rfl)) ?_
  try go_wp2
  go_meet
  case rel => exact ⟨_, (decide (t153 < t154)), (by first | rfl | (simp; done) | (simp [*]; done)), H', ⟨by have := HK1.out; first | omega | exact Nat.le_refl _⟩, ⟨by (with_reducible repeat (first | refine blk_drewN ?_ _ | refine blk_drew ?_ | refine blk_alloc ?_ _)); exact BK143.out⟩, ⟨by (with_reducible repeat (first | refine blk_drewN ?_ _ | refine blk_drew ?_ | refine blk_alloc ?_ _)); exact BK150.out⟩, ⟨by repeat (first | (with_reducible first | exact HB.out | apply below_alloc | apply pw_below_drewN | apply below_drew1 | refine below_set ?_ GE143.out | refine below_set ?_ GE150.out) | exact HB.out)⟩⟩
 case rest =>
  clear HC42
  try clear c1
  try clear p2
  try clear c4
  try clear c14
  try clear c44
  try clear c46
  try clear c47
  try clear c48
  try clear c48b0
  try clear c48b1
  obtain ⟨kq, x98_41, rfl, HA, HJ41, BK143, BK150, HB⟩ := hcut
  cases kq with
  | zero => exact absurd HA.out (by simp [interregnumref11_score.j1])
  | succ kj41 =>
  have H := HA.out
  clear HA
  simp only [interregnumref11_score.j1] at H
  by_cases c61 : x98_41 = true
  ·subst c61
   have H1 : (some 1) = some r := by rw [if_pos rfl] at H; exact H
   clear H
   have H := H1
   clear H1
   obtain rfl := Option.some.inj H
   go_wp2
   go_ret
   exact ⟨by first | rfl | (simp [errW_none, errW_some] <;> rfl) | (simp [*, errW_none, errW_some] <;> rfl), by repeat (first | (with_reducible first | exact HB.out | apply below_alloc | apply pw_below_drewN | apply below_drew1 | refine below_set ?_ GE143.out | refine below_set ?_ GE150.out) | exact HB.out)⟩
  replace c61 := Bool.eq_false_iff.mpr c61
  subst c61
  have H1 : (interregnumref11_score.l0 kj41 l3 l4 t146 t147 (wrap64 (x16_1 + 1)) ((rd_T41 l3 a5).f0.f0) ((rd_T41 l3 a5).f0.f1) ((rd_T41 l3 a5).f1) ((rd_T41 l3 a5).f2.f0) ((rd_T41 l3 a5).f2.f1) ((rd_T41 l3 a5).f2.f2) ((rd_T41 l3 a5).f2.f3) ((rd_T41 l3 a5).f2.f4) ((rd_T41 l3 a5).f2.f5) ((rd_T41 l3 a5).f2.f6) ((rd_T41 l3 a5).f3)) = some r := by rw [if_neg (show ¬ (false = true) by decide)] at H; exact H
  clear H
  have H := H1
  clear H1
  have H' := Aside0.mk H
  clear H
  go_wp2
  go_roundg kj41
  case measure => have := HK1.out; have := HJ41.out; omega
  case rel => exact ⟨(wrap64 (x16_1 + 1)), (by first | rfl | (simp; done) | (simp [*]; done)), H', ⟨by have := HK1.out; have := HJ41.out; omega⟩, ⟨by (with_reducible repeat (first | refine blk_drewN ?_ _ | refine blk_drew ?_ | refine blk_alloc ?_ _)); exact BK143.out⟩, ⟨by repeat (first | (with_reducible first | exact HB.out | apply below_alloc | apply pw_below_drewN | apply below_drew1 | refine below_set ?_ GE143.out | refine below_set ?_ GE150.out) | exact HB.out)⟩⟩

end Go.Proofs.Ytediicgkcgfghaa.PDecideBest
