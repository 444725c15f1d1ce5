-- Lean text by a program of this repo (wip/tools/printx.py), out of Lean's own print of the translation
import Derived.Test.YtjaibpphlbddoaaHelp
import Derived.Laws.Externs
import Derived.Lib.BytesEntry
import Derived.Lib.Bytealg
import Derived.Test.YtjaibpphlbddoaaPRegionCleanx0
import Derived.Test.YtjaibpphlbddoaaPRegionCleanx1
import Derived.Test.YtjaibpphlbddoaaPRegionCleanx2
namespace Go.Proofs.Ytjaibpphlbddoaa.PRegionClean
open Go.RowKit Go.Proofs.YtjaibpphlbddoaaW.PrintWords Go.Proofs.YtjaibpphlbddoaaW.PrintLast Go.Proofs.YtjaibpphlbddoaaW.PrintMore
attribute [local go_sem] max2_int min2_int max_two min_two max_three min_three max_four min_four   -- for this text's walks alone
set_option linter.unusedVariables false
set_option linter.unusedSimpArgs false

/-! ### region_Lay: function 25 -/
mutual
def region_Lay.j0 : Nat → Int → Int → Int → List Int → Bool → Disk.DiskM → Option (Int × Int × Disk.DiskM)
  | 0, _, _, _, _, _, _ => none
  | k + 1, x1, x2, x3, x4, x33, x1000 => if x33 = true then (some (0, 1, x1000)) else ((region_Size.f (x4.length : Int)).bind fun t124 => ((sector_Disk_Len.f x1000).bind fun bt125 => (if t124 > (wrap64 ((mn x2 bt125.1) - x1)) then (some (0, 3, bt125.2)) else (region_Lay.l0 k x1 x3 x4 t124 1 bt125.2))))
def region_Lay.l0 : Nat → Int → Int → List Int → Int → Int → Disk.DiskM → Option (Int × Int × Disk.DiskM)
  | 0, _, _, _, _, _, _ => none
  | k + 1, x1, x3, x4, x12, x13, x1000 => if x13 < x12 then (if 0 ≤ (wrap64 ((wrap64 (x13 - 1)) * 64)) then (if (wrap64 ((wrap64 (x13 - 1)) * 64)) ≤ (mn (wrap64 (x13 * 64)) (x4.length : Int)) then (if (mn (wrap64 (x13 * 64)) (x4.length : Int)) ≤ (x4.length : Int) then ((sector_Disk_Write.f x1000 (wrap64 (x1 + x13)) ((x4.take ((mn (wrap64 (x13 * 64)) (x4.length : Int)) : Int).toNat).drop ((wrap64 ((wrap64 (x13 - 1)) * 64)) : Int).toNat)).bind fun bt131 => (if bt131.1 = 0 then (region_Lay.l0 k x1 x3 x4 x12 (wrap64 (x13 + 1)) bt131.2) else (some (0, bt131.1, bt131.2)))) else (none)) else (none)) else (none)) else ((sector_Disk_Flush.f x1000).bind fun bt133 => (if bt133.1 = 0 then ((region_first.f k x3 x4).bind fun t135 => ((sector_Disk_Write.f bt133.2 x1 t135).bind fun bt138 => (if bt138.1 = 0 then ((sector_Disk_Flush.f bt138.2).bind fun bt140 => (if bt140.1 = 0 then (some (wrap64 (x1 + x12), 0, bt140.2)) else (some (0, bt140.1, bt140.2)))) else (some (0, bt138.1, bt138.2))))) else (some (0, bt133.1, bt133.2))))
end
def region_Lay.f (k : Nat) (s0_0 : Disk.DiskM) (a1 : Int) (a2 : Int) (a3 : Int) (l4 : List Int) : Option (Int × Int × Disk.DiskM) := if (l4.length : Int) > 8192 then (region_Lay.j0 k a1 a2 a3 l4 true s0_0) else (if a3 < 0 then (region_Lay.j0 k a1 a2 a3 l4 true s0_0) else (if a3 > 2147483647 then (region_Lay.j0 k a1 a2 a3 l4 true s0_0) else (region_Lay.j0 k a1 a2 a3 l4 (decide (a1 < 0)) s0_0)))
theorem region_Lay.mono_l : ∀ k, (∀ y0 y1 y2 y3 y4 y5, LeO (region_Lay.j0 k y0 y1 y2 y3 y4 y5) (region_Lay.j0 (k + 1) y0 y1 y2 y3 y4 y5)) ∧ (∀ y0 y1 y2 y3 y4 y5, LeO (region_Lay.l0 k y0 y1 y2 y3 y4 y5) (region_Lay.l0 (k + 1) y0 y1 y2 y3 y4 y5))
  | 0 => ⟨fun _ _ _ _ _ _ r h => by simp [region_Lay.j0] at h, fun _ _ _ _ _ _ r h => by simp [region_Lay.l0] at h⟩
  | k + 1 => by
    obtain ⟨ih0, ih1⟩ := region_Lay.mono_l k
    refine ⟨?_, ?_⟩
    · intro y0 y1 y2 y3 y4 y5
      unfold region_Lay.j0
      repeat' first
      | (with_reducible exact ih0 _ _ _ _ _ _)
      | (with_reducible exact ih1 _ _ _ _ _ _)
      | (with_reducible exact region_first.mono _ _ _)
      | (with_reducible exact LeO.refl _)
      | (with_reducible exact LeO.none _)
      | (with_reducible refine LeO.ite ?_ ?_)
      | (with_reducible refine LeO.bind ?_ (fun _ => ?_))
      | exact ih0 _ _ _ _ _ _
      | exact ih1 _ _ _ _ _ _
      | exact region_first.mono _ _ _
      | exact LeO.none _
      | refine LeO.ite ?_ ?_
      | refine LeO.bind ?_ (fun _ => ?_)
    · intro y0 y1 y2 y3 y4 y5
      unfold region_Lay.l0
      repeat' first
      | (with_reducible exact ih0 _ _ _ _ _ _)
      | (with_reducible exact ih1 _ _ _ _ _ _)
      | (with_reducible exact region_first.mono _ _ _)
      | (with_reducible exact LeO.refl _)
      | (with_reducible exact LeO.none _)
      | (with_reducible refine LeO.ite ?_ ?_)
      | (with_reducible refine LeO.bind ?_ (fun _ => ?_))
      | exact ih0 _ _ _ _ _ _
      | exact ih1 _ _ _ _ _ _
      | exact region_first.mono _ _ _
      | exact LeO.none _
      | refine LeO.ite ?_ ?_
      | refine LeO.bind ?_ (fun _ => ?_)
theorem region_Lay.mono : ∀ a0 a1 a2 a3 a4 k, LeO (region_Lay.f k a0 a1 a2 a3 a4) (region_Lay.f (k + 1) a0 a1 a2 a3 a4) := by
  intro a0 a1 a2 a3 a4 k
  obtain ⟨ih0, ih1⟩ := region_Lay.mono_l k
  unfold region_Lay.f
  repeat' first
      | (with_reducible exact ih0 _ _ _ _ _ _)
      | (with_reducible exact ih1 _ _ _ _ _ _)
      | (with_reducible exact region_first.mono _ _ _)
      | (with_reducible exact LeO.refl _)
      | (with_reducible exact LeO.none _)
      | (with_reducible refine LeO.ite ?_ ?_)
      | (with_reducible refine LeO.bind ?_ (fun _ => ?_))
      | exact ih0 _ _ _ _ _ _
      | exact ih1 _ _ _ _ _ _
      | exact region_first.mono _ _ _
      | exact LeO.none _
      | refine LeO.ite ?_ ?_
      | refine LeO.bind ?_ (fun _ => ?_)
set_option maxHeartbeats 8000000 in
set_option maxRecDepth 100000 in
theorem region_Lay.calls (k : Nat) (g : Nat) (s0_0 : Disk.DiskM) (a1 : Int) (a2 : Int) (a3 : Int) (A4 : Option Addr) (c4 : Nat) (l4 : List Int) (r1 : Int) (r2 : Int) (r3 : Disk.DiskM) (w0 w : World) (hI : IsS67 w0 w g s0_0) (hB : Below w0.heap.size w0 w) (hr4 : ∀ W_, Go.Proofs.Ytjaibpphlbddoaa.Opq.KeepO ts67 w0.heap.size w W_ → Kd.C (Kd.int .u8) W_ A4 l4.length l4) (hc4 : l4.length ≤ c4) (h : region_Lay.f k s0_0 a1 a2 a3 l4 = some (r1, r2, r3)) :
    Calls Try.prog 25 #[.pointer (some ⟨g, 0, none⟩), .int .i64 a1, .int .i64 a2, .int .i64 a3, .slice A4 l4.length c4] w fun e w' => e = .returned (.tuple #[.int .i64 r1, .int .i64 r2]) ∧ IsS67 w0 w' g r3 ∧ Below w0.heap.size w0 w' ∧ Go.Proofs.Ytjaibpphlbddoaa.Opq.KeepO ts67 w0.heap.size w w' := by
  have HR4 := Aside0.mk hr4
  have HC4 := Aside0.mk hc4
  clear hr4 hc4
  have HI0 := Aside0.mk hI
  have HK := Aside0.mk (Go.Proofs.Ytjaibpphlbddoaa.Opq.KeepO.refl ts67 w0.heap.size w)
  have HL := Aside0.mk hB.size
  clear hI
  have HW0 := Aside0.mk hB.size
  have HB := Aside0.mk hB
  clear hB
  have H : (if (l4.length : Int) > 8192 then (region_Lay.j0 k a1 a2 a3 l4 true s0_0) else (if a3 < 0 then (region_Lay.j0 k a1 a2 a3 l4 true s0_0) else (if a3 > 2147483647 then (region_Lay.j0 k a1 a2 a3 l4 true s0_0) else (region_Lay.j0 k a1 a2 a3 l4 (decide (a1 < 0)) s0_0)))) = some (r1, r2, r3) := h
  clear h
  have HC6 := Aside0.mk H
  clear H
  go_enter Try.func25, Try.ntmps25
  go_upto_region 1 with (fail)
  go_cut [33] (fun v33 wc => ∃ (kq : Nat) (x33_5 : Bool), v33 = .bool x33_5 ∧ Aside0 (region_Lay.j0 kq a1 a2 a3 l4 x33_5 s0_0 = some (r1, r2, r3)) ∧ Aside0 (kq ≤ k) ∧ Aside0 (IsS67 w0 wc g s0_0) ∧ Aside0 (Go.Proofs.Ytjaibpphlbddoaa.Opq.KeepO ts67 w0.heap.size w wc) ∧ Aside0 (Below w0.heap.size w0 wc))
  case first =>
    have H := HC6.out
    clear HC6
    by_cases c7 : (l4.length : Int) > 8192
    · rw [if_pos c7] at H
      have c7b0 : decide (8192 < (l4.length : Int)) = true := decide_eq_true c7
      have c7b1 : decide (8192 < l4.length) = true := decide_eq_true (by omega)
      clear c7
      (first | rw [c7b0] | (simp only [i64_w, i32_w]; rw [c7b0]) | skip)
      have H' := Aside0.mk H
      clear H
      go_wp2
      go_meet
      case rel => exact ⟨_, (true), (by first | rfl | (simp; done) | (simp [*]; done)), H', ⟨by first | omega | exact Nat.le_refl _⟩, ⟨by repeat (first | (with_reducible first | exact HI0.out | apply IsS67.alloc | apply IsS67.drewN | apply IsS67.drew) | exact HI0.out)⟩, ⟨by repeat (first | (with_reducible first | exact HK.out | apply Go.Proofs.Ytjaibpphlbddoaa.Opq.KeepO.drewN | apply Go.Proofs.Ytjaibpphlbddoaa.Opq.KeepO.drew | apply Go.Proofs.Ytjaibpphlbddoaa.Opq.KeepO.alloc) | exact HK.out)⟩, ⟨by repeat (first | (with_reducible first | exact HB.out | apply below_alloc | apply pw_below_drewN | apply below_drew1 | refine below_set ?_ (IsS67.ge HI0.out)) | exact HB.out)⟩⟩
    · rw [if_neg c7] at H
      have c7b0 : decide (8192 < (l4.length : Int)) = false := decide_eq_false c7
      have c7b1 : decide (8192 < l4.length) = false := decide_eq_false (by omega)
      clear c7
      (first | rw [c7b0] | (simp only [i64_w, i32_w]; rw [c7b0]) | skip)
      by_cases c8 : a3 < 0
      · rw [if_pos c8] at H
        have c8b0 : decide (a3 < 0) = true := decide_eq_true c8
        clear c8
        have H' := Aside0.mk H
        clear H
        go_wp2
        go_meet
        case rel => exact ⟨_, (true), (by first | rfl | (simp; done) | (simp [*]; done)), H', ⟨by first | omega | exact Nat.le_refl _⟩, ⟨by repeat (first | (with_reducible first | exact HI0.out | apply IsS67.alloc | apply IsS67.drewN | apply IsS67.drew) | exact HI0.out)⟩, ⟨by repeat (first | (with_reducible first | exact HK.out | apply Go.Proofs.Ytjaibpphlbddoaa.Opq.KeepO.drewN | apply Go.Proofs.Ytjaibpphlbddoaa.Opq.KeepO.drew | apply Go.Proofs.Ytjaibpphlbddoaa.Opq.KeepO.alloc) | exact HK.out)⟩, ⟨by repeat (first | (with_reducible first | exact HB.out | apply below_alloc | apply pw_below_drewN | apply below_drew1 | refine below_set ?_ (IsS67.ge HI0.out)) | exact HB.out)⟩⟩
      · rw [if_neg c8] at H
        have c8b0 : decide (a3 < 0) = false := decide_eq_false c8
        clear c8
        by_cases c9 : a3 > 2147483647
        · rw [if_pos c9] at H
          have c9b0 : decide (2147483647 < a3) = true := decide_eq_true c9
          clear c9
          have H' := Aside0.mk H
          clear H
          go_wp2
          go_meet
          case rel => exact ⟨_, (true), (by first | rfl | (simp; done) | (simp [*]; done)), H', ⟨by first | omega | exact Nat.le_refl _⟩, ⟨by repeat (first | (with_reducible first | exact HI0.out | apply IsS67.alloc | apply IsS67.drewN | apply IsS67.drew) | exact HI0.out)⟩, ⟨by repeat (first | (with_reducible first | exact HK.out | apply Go.Proofs.Ytjaibpphlbddoaa.Opq.KeepO.drewN | apply Go.Proofs.Ytjaibpphlbddoaa.Opq.KeepO.drew | apply Go.Proofs.Ytjaibpphlbddoaa.Opq.KeepO.alloc) | exact HK.out)⟩, ⟨by repeat (first | (with_reducible first | exact HB.out | apply below_alloc | apply pw_below_drewN | apply below_drew1 | refine below_set ?_ (IsS67.ge HI0.out)) | exact HB.out)⟩⟩
        · rw [if_neg c9] at H
          have c9b0 : decide (2147483647 < a3) = false := decide_eq_false c9
          clear c9
          have H' := Aside0.mk H
          clear H
          go_wp2
          go_meet
          case rel => exact ⟨_, (decide (a1 < 0)), (by first | rfl | (simp; done) | (simp [*]; done)), H', ⟨by first | omega | exact Nat.le_refl _⟩, ⟨by repeat (first | (with_reducible first | exact HI0.out | apply IsS67.alloc | apply IsS67.drewN | apply IsS67.drew) | exact HI0.out)⟩, ⟨by repeat (first | (with_reducible first | exact HK.out | apply Go.Proofs.Ytjaibpphlbddoaa.Opq.KeepO.drewN | apply Go.Proofs.Ytjaibpphlbddoaa.Opq.KeepO.drew | apply Go.Proofs.Ytjaibpphlbddoaa.Opq.KeepO.alloc) | exact HK.out)⟩, ⟨by repeat (first | (with_reducible first | exact HB.out | apply below_alloc | apply pw_below_drewN | apply below_drew1 | refine below_set ?_ (IsS67.ge HI0.out)) | exact HB.out)⟩⟩
  case rest =>
    clear HC6
    try clear c2
    try clear p2
    try clear c4
    try clear c7
    try clear c7b0
    try clear c7b1
    try clear c8
    try clear c8b0
    try clear c9
    try clear c9b0
    obtain ⟨kq, x33_5, rfl, HA, HJ5, HI0, HK, HB⟩ := hcut
    cases kq with
    | zero => exact absurd HA.out (by simp [region_Lay.j0])
    | succ kj5 =>
      have H := HA.out
      clear HA
      simp only [region_Lay.j0] at H
      by_cases c10 : x33_5 = true
      · subst c10
        have H1 : (some (0, 1, s0_0)) = some (r1, r2, r3) := by rw [if_pos rfl] at H; exact H
        clear H
        have H := H1
        clear H1
        simp only [Option.some.injEq, Prod.mk.injEq] at H
        obtain ⟨rfl, rfl, rfl⟩ := H
        go_wp2
        go_ret2
        exact ⟨by first | rfl | (simp [errW_none, errW_some] <;> rfl) | (simp [*, errW_none, errW_some] <;> rfl), by repeat (first | (with_reducible first | exact HI0.out | apply IsS67.alloc | apply IsS67.drewN | apply IsS67.drew) | exact HI0.out), by repeat (first | (with_reducible first | exact HB.out | apply below_alloc | apply pw_below_drewN | apply below_drew1 | refine below_set ?_ (IsS67.ge HI0.out)) | exact HB.out), by repeat (first | (with_reducible first | exact HK.out | apply Go.Proofs.Ytjaibpphlbddoaa.Opq.KeepO.drewN | apply Go.Proofs.Ytjaibpphlbddoaa.Opq.KeepO.drew | apply Go.Proofs.Ytjaibpphlbddoaa.Opq.KeepO.alloc) | exact HK.out)⟩
      · replace c10 := Bool.eq_false_iff.mpr c10
        subst c10
        have H1 : ((region_Size.f (l4.length : Int)).bind fun t124 => ((sector_Disk_Len.f s0_0).bind fun bt125 => (if t124 > (wrap64 ((mn a2 bt125.1) - a1)) then (some (0, 3, bt125.2)) else (region_Lay.l0 kj5 a1 a3 l4 t124 1 bt125.2)))) = some (r1, r2, r3) := by rw [if_neg (show ¬ (false = true) by decide)] at H; exact H
        clear H
        have H := H1
        clear H1
        replace H := Option.bind_eq_some_iff.mp H
        obtain ⟨t124, A110, H⟩ := H
        replace H : ((sector_Disk_Len.f s0_0).bind fun bt125 => (if t124 > (wrap64 ((mn a2 bt125.1) - a1)) then (some (0, 3, bt125.2)) else (region_Lay.l0 kj5 a1 a3 l4 t124 1 bt125.2))) = some (r1, r2, r3) := H
        have A11 := Aside0.mk A110
        clear A110
        replace H := Option.bind_eq_some_iff.mp H
        obtain ⟨⟨t125, t126⟩, A120, H⟩ := H
        replace H : (if t124 > (wrap64 ((mn a2 t125) - a1)) then (some (0, 3, t126)) else (region_Lay.l0 kj5 a1 a3 l4 t124 1 t126)) = some (r1, r2, r3) := H
        have A12 := Aside0.mk A120
        clear A120
        obtain ⟨ji13, hji13⟩ : ∃ j_ : Int, (mn a2 t125) = j_ := ⟨_, rfl⟩
        replace H : (if t124 > (wrap64 ((ji13) - a1)) then (some (0, 3, t126)) else (region_Lay.l0 kj5 a1 a3 l4 t124 1 t126)) = some (r1, r2, r3) := by first | (rw [hji13] at H; exact H) | (simp only [hji13] at H ⊢; exact H)
        (try rw [hji13] at A11)
        (try rw [hji13] at A12)
        have hji13_ : (if t125 < a2 then t125 else a2) = ji13 := hji13
        by_cases c14 : t124 > (wrap64 ((ji13) - a1))
        · rw [if_pos c14] at H
          have c14b0 : decide ((wrap64 ((ji13) - a1)) < t124) = true := decide_eq_true c14
          clear c14
          simp only [Option.some.injEq, Prod.mk.injEq] at H
          obtain ⟨rfl, rfl, rfl⟩ := H
          go_wp2_with (first | ((with_reducible refine gate_callee (f := 38) rfl ?_); refine goesL_ (some 36) rfl rfl Try.func38 (by kernel_rfl) rfl #[.int .i64 (l4.length : Int)] rfl (by (try simp only [List.map_toArray, List.map_cons, List.map_nil]); first | done | rfl | (simp only [List.length_drop, List.length_take]; rfl)) ?_; (with_reducible refine (region_Size.calls (l4.length : Int) t124 _ A11.out).mono ?_); rintro e w15 ⟨rfl, hb⟩; refine ⟨_, rfl, ?_⟩; have n0_ := Aside0.mk (IsS67.below (by repeat (first | (with_reducible first | exact HI0.out | apply IsS67.alloc | apply IsS67.drewN | apply IsS67.drew) | exact HI0.out)) hb); have n1_ := Aside0.mk (Go.Proofs.Ytjaibpphlbddoaa.Opq.KeepO.trans (by repeat (first | (with_reducible first | exact HK.out | apply Go.Proofs.Ytjaibpphlbddoaa.Opq.KeepO.drewN | apply Go.Proofs.Ytjaibpphlbddoaa.Opq.KeepO.drew | apply Go.Proofs.Ytjaibpphlbddoaa.Opq.KeepO.alloc) | exact HK.out)) (Go.Proofs.Ytjaibpphlbddoaa.Opq.KeepO.of_below hb)); have n2_ := Aside0.mk (below_step (by repeat (first | (with_reducible first | exact HB.out | apply below_alloc | apply pw_below_drewN | apply below_drew1 | refine below_set ?_ (IsS67.ge HI0.out)) | exact HB.out)) hb); clear HI0; clear HK; clear HB; have HI0 := n0_; have HK := n1_; have HB := n2_; clear n0_ n1_ n2_; (try clear hb); (try clear hb2); (try clear hk); (try clear hi)) | ((with_reducible refine gate_callee (f := 23) rfl ?_); refine goesL_ (some 40) rfl rfl Try.func23 (by kernel_rfl) rfl #[.pointer (some ⟨g, 0, none⟩)] rfl (by (try simp only [List.map_toArray, List.map_cons, List.map_nil]); first | done | rfl | (simp only [List.length_drop, List.length_take]; rfl)) ?_; (with_reducible refine (sector_Disk_Len.calls g s0_0 t125 t126 w0 _ ?side1 ?side2 A12.out).mono ?_); (case side1 => repeat (first | (with_reducible first | exact HI0.out | apply IsS67.alloc | apply IsS67.drewN | apply IsS67.drew) | exact HI0.out)); (case side2 => repeat (first | (with_reducible first | exact HB.out | apply below_alloc | apply pw_below_drewN | apply below_drew1 | refine below_set ?_ (IsS67.ge HI0.out)) | exact HB.out)); rintro e w16 ⟨rfl, hi, hb, hk⟩; refine ⟨_, rfl, ?_⟩; have n0_ := Aside0.mk (Go.Proofs.Ytjaibpphlbddoaa.Opq.KeepO.trans (by repeat (first | (with_reducible first | exact HK.out | apply Go.Proofs.Ytjaibpphlbddoaa.Opq.KeepO.drewN | apply Go.Proofs.Ytjaibpphlbddoaa.Opq.KeepO.drew | apply Go.Proofs.Ytjaibpphlbddoaa.Opq.KeepO.alloc) | exact HK.out)) hk); have n1_ := Aside0.mk (hb); have n2_ := Aside0.mk (hi); clear HK; clear HB; clear HI0; have HK := n0_; have HB := n1_; have HI0 := n2_; clear n0_ n1_ n2_; (try clear hb); (try clear hb2); (try clear hk); (try clear hi)))
          go_ret2
          exact ⟨by first | rfl | (simp [errW_none, errW_some] <;> rfl) | (simp only [← hji13]; first | rfl | (simp [errW_none, errW_some] <;> rfl)) | (simp [*, errW_none, errW_some] <;> rfl), by repeat (first | (with_reducible first | exact HI0.out | apply IsS67.alloc | apply IsS67.drewN | apply IsS67.drew) | exact HI0.out), by repeat (first | (with_reducible first | exact HB.out | apply below_alloc | apply pw_below_drewN | apply below_drew1 | refine below_set ?_ (IsS67.ge HI0.out)) | exact HB.out), by repeat (first | (with_reducible first | exact HK.out | apply Go.Proofs.Ytjaibpphlbddoaa.Opq.KeepO.drewN | apply Go.Proofs.Ytjaibpphlbddoaa.Opq.KeepO.drew | apply Go.Proofs.Ytjaibpphlbddoaa.Opq.KeepO.alloc) | exact HK.out)⟩
        · rw [if_neg c14] at H
          have c14b0 : decide ((wrap64 ((ji13) - a1)) < t124) = false := decide_eq_false c14
          clear c14
          have H' := Aside0.mk H
          clear H
          go_wp2_with (first | ((with_reducible refine gate_callee (f := 38) rfl ?_); refine goesL_ (some 36) rfl rfl Try.func38 (by kernel_rfl) rfl #[.int .i64 (l4.length : Int)] rfl (by (try simp only [List.map_toArray, List.map_cons, List.map_nil]); first | done | rfl | (simp only [List.length_drop, List.length_take]; rfl)) ?_; (with_reducible refine (region_Size.calls (l4.length : Int) t124 _ A11.out).mono ?_); rintro e w17 ⟨rfl, hb⟩; refine ⟨_, rfl, ?_⟩; have n0_ := Aside0.mk (IsS67.below (by repeat (first | (with_reducible first | exact HI0.out | apply IsS67.alloc | apply IsS67.drewN | apply IsS67.drew) | exact HI0.out)) hb); have n1_ := Aside0.mk (Go.Proofs.Ytjaibpphlbddoaa.Opq.KeepO.trans (by repeat (first | (with_reducible first | exact HK.out | apply Go.Proofs.Ytjaibpphlbddoaa.Opq.KeepO.drewN | apply Go.Proofs.Ytjaibpphlbddoaa.Opq.KeepO.drew | apply Go.Proofs.Ytjaibpphlbddoaa.Opq.KeepO.alloc) | exact HK.out)) (Go.Proofs.Ytjaibpphlbddoaa.Opq.KeepO.of_below hb)); have n2_ := Aside0.mk (below_step (by repeat (first | (with_reducible first | exact HB.out | apply below_alloc | apply pw_below_drewN | apply below_drew1 | refine below_set ?_ (IsS67.ge HI0.out)) | exact HB.out)) hb); clear HI0; clear HK; clear HB; have HI0 := n0_; have HK := n1_; have HB := n2_; clear n0_ n1_ n2_; (try clear hb); (try clear hb2); (try clear hk); (try clear hi)) | ((with_reducible refine gate_callee (f := 23) rfl ?_); refine goesL_ (some 40) rfl rfl Try.func23 (by kernel_rfl) rfl #[.pointer (some ⟨g, 0, none⟩)] rfl (by (try simp only [List.map_toArray, List.map_cons, List.map_nil]); first | done | rfl | (simp only [List.length_drop, List.length_take]; rfl)) ?_; (with_reducible refine (sector_Disk_Len.calls g s0_0 t125 t126 w0 _ ?side1 ?side2 A12.out).mono ?_); (case side1 => repeat (first | (with_reducible first | exact HI0.out | apply IsS67.alloc | apply IsS67.drewN | apply IsS67.drew) | exact HI0.out)); (case side2 => repeat (first | (with_reducible first | exact HB.out | apply below_alloc | apply pw_below_drewN | apply below_drew1 | refine below_set ?_ (IsS67.ge HI0.out)) | exact HB.out)); rintro e w18 ⟨rfl, hi, hb, hk⟩; refine ⟨_, rfl, ?_⟩; have n0_ := Aside0.mk (Go.Proofs.Ytjaibpphlbddoaa.Opq.KeepO.trans (by repeat (first | (with_reducible first | exact HK.out | apply Go.Proofs.Ytjaibpphlbddoaa.Opq.KeepO.drewN | apply Go.Proofs.Ytjaibpphlbddoaa.Opq.KeepO.drew | apply Go.Proofs.Ytjaibpphlbddoaa.Opq.KeepO.alloc) | exact HK.out)) hk); have n1_ := Aside0.mk (hb); have n2_ := Aside0.mk (hi); clear HK; clear HB; clear HI0; have HK := n0_; have HB := n1_; have HI0 := n2_; clear n0_ n1_ n2_; (try clear hb); (try clear hb2); (try clear hk); (try clear hi)))
          go_loopg [13] kj5 (fun kq v13 w' => ∃ (x13_2 : Int) (x1000_2 : Disk.DiskM), v13 = .int .i64 x13_2 ∧ Aside0 (region_Lay.l0 kq a1 a3 l4 t124 x13_2 x1000_2 = some (r1, r2, r3)) ∧ Aside0 (kq ≤ kj5) ∧ Aside0 (IsS67 w0 w' g x1000_2) ∧ Aside0 (Go.Proofs.Ytjaibpphlbddoaa.Opq.KeepO ts67 w0.heap.size w w') ∧ Aside0 (Below w0.heap.size w0 w'))
          case atStart => exact ⟨(1), (t126), (by first | rfl | (simp; done) | (simp [*]; done)), H', ⟨Nat.le_refl _⟩, ⟨by repeat (first | (with_reducible first | exact HI0.out | apply IsS67.alloc | apply IsS67.drewN | apply IsS67.drew) | exact HI0.out)⟩, ⟨by repeat (first | (with_reducible first | exact HK.out | apply Go.Proofs.Ytjaibpphlbddoaa.Opq.KeepO.drewN | apply Go.Proofs.Ytjaibpphlbddoaa.Opq.KeepO.drew | apply Go.Proofs.Ytjaibpphlbddoaa.Opq.KeepO.alloc) | exact HK.out)⟩, ⟨by repeat (first | (with_reducible first | exact HB.out | apply below_alloc | apply pw_below_drewN | apply below_drew1 | refine below_set ?_ (IsS67.ge HI0.out)) | exact HB.out)⟩⟩
          case round =>
            clear H'
            try clear c1
            try clear c2
            try clear p2
            try clear c3
            try clear c4
            try clear p6
            try clear c7
            try clear c7b0
            try clear c7b1
            try clear c8
            try clear c8b0
            try clear c9
            try clear c9b0
            try clear c10
            try clear c14
            try clear c14b0
            try clear p2
            obtain ⟨x13_2, x1000_2, rfl, HA, HK2, HI0, HK, HB⟩ := hrel
            cases gk with
            | zero => exact absurd HA.out (by simp [region_Lay.l0])
            | succ k2 =>
              have H := HA.out
              clear HA
              simp only [region_Lay.l0] at H
              by_cases c19 : x13_2 < t124
              · rw [if_pos c19] at H
                have c19b0 : decide (x13_2 < t124) = true := decide_eq_true c19
                clear c19
                obtain ⟨ji20, hji20⟩ : ∃ j_ : Int, (mn (wrap64 (x13_2 * 64)) (l4.length : Int)) = j_ := ⟨_, rfl⟩
                replace H : (if 0 ≤ (wrap64 ((wrap64 (x13_2 - 1)) * 64)) then (if (wrap64 ((wrap64 (x13_2 - 1)) * 64)) ≤ (ji20) then (if (ji20) ≤ (l4.length : Int) then ((sector_Disk_Write.f x1000_2 (wrap64 (a1 + x13_2)) ((l4.take ((ji20) : Int).toNat).drop ((wrap64 ((wrap64 (x13_2 - 1)) * 64)) : Int).toNat)).bind fun bt131 => (if bt131.1 = 0 then (region_Lay.l0 k2 a1 a3 l4 t124 (wrap64 (x13_2 + 1)) bt131.2) else (some (0, bt131.1, bt131.2)))) else (none)) else (none)) else (none)) = some (r1, r2, r3) := by first | (rw [hji20] at H; exact H) | (simp only [hji20] at H ⊢; exact H)
                have hji20_ : (if (l4.length : Int) < (wrap64 (x13_2 * 64)) then (l4.length : Int) else (wrap64 (x13_2 * 64))) = ji20 := hji20
                obtain ⟨ji21, hji21⟩ : ∃ j_ : Int, (wrap64 ((wrap64 (x13_2 - 1)) * 64)) = j_ := ⟨_, rfl⟩
                replace H : (if 0 ≤ (ji21) then (if (ji21) ≤ (ji20) then (if (ji20) ≤ (l4.length : Int) then ((sector_Disk_Write.f x1000_2 (wrap64 (a1 + x13_2)) ((l4.take ((ji20) : Int).toNat).drop ((ji21) : Int).toNat)).bind fun bt131 => (if bt131.1 = 0 then (region_Lay.l0 k2 a1 a3 l4 t124 (wrap64 (x13_2 + 1)) bt131.2) else (some (0, bt131.1, bt131.2)))) else (none)) else (none)) else (none)) = some (r1, r2, r3) := by first | (rw [hji21] at H; exact H) | (simp only [hji21] at H ⊢; exact H)
                have hji21w : (IntKind.i64.wrap ((wrap64 (x13_2 - 1)) * 64)) = ji21 := (i64_w _).trans hji21
                by_cases c22 : 0 ≤ (ji21)
                · rw [if_pos c22] at H
                  have c22b0 := eq_true c22
                  have c22b1 : decide (0 ≤ (ji21)) = true := decide_eq_true c22
                  clear c22
                  by_cases c23 : (ji21) ≤ (ji20)
                  · rw [if_pos c23] at H
                    have c23b0 := eq_true c23
                    have c23b1 : decide ((ji21) ≤ (ji20)) = true := decide_eq_true c23
                    clear c23
                    by_cases c24 : (ji20) ≤ (l4.length : Int)
                    · rw [if_pos c24] at H
                      have c24b0 := eq_true c24
                      have c24b1 : decide ((ji20) ≤ (l4.length : Int)) = true := decide_eq_true c24
                      clear c24
                      obtain ⟨y127, hy127⟩ : ∃ y_ : List Int, y_ = ((l4.take ((ji20) : Int).toNat).drop ((ji21) : Int).toNat) := ⟨_, rfl⟩
                      replace H : ((sector_Disk_Write.f x1000_2 (wrap64 (a1 + x13_2)) y127).bind fun bt131 => (if bt131.1 = 0 then (region_Lay.l0 k2 a1 a3 l4 t124 (wrap64 (x13_2 + 1)) bt131.2) else (some (0, bt131.1, bt131.2)))) = some (r1, r2, r3) := by first | (rw [hy127]; with_reducible exact H) | (have H2_ := (Option.bind_some _ _).symm.trans H; rw [hy127]; with_reducible exact H2_) | (have H2_ := (Option.bind_some _ _).symm.trans H; with_reducible exact H2_) | with_reducible exact H | (rw [hy127]; exact H) | exact H
                      have Ny127 := Aside0.mk hy127
                      clear hy127
                      replace H := Option.bind_eq_some_iff.mp H
                      obtain ⟨⟨t131, t132⟩, A250, H⟩ := H
                      replace H : (if t131 = 0 then (region_Lay.l0 k2 a1 a3 l4 t124 (wrap64 (x13_2 + 1)) t132) else (some (0, t131, t132))) = some (r1, r2, r3) := H
                      have A25 := Aside0.mk A250
                      clear A250
                      by_cases c26 : t131 = 0
                      · rw [if_pos c26] at H
                        have c26b0 : (t131 == 0) = true := beq_iff_eq.mpr c26
                        have c26b1 : (t131 != 0) = false := bne_eq_false_iff_eq.mpr c26
                        clear c26
                        have H' := Aside0.mk H
                        clear H
                        have q27 : ((ji20) : Int) ≤ ((l4.length : Int) : Int) := of_decide_eq_true (by first | (with_reducible assumption) | assumption)
                        obtain ⟨i027, hi027, _, hsz27, _⟩ := info_parts info5
                        have hroom27 : l4.length ≤ c4 := HC4.out
                        have hC27 : Kd.C (Kd.int .u8) _ A4 l4.length l4 := (Go.Proofs.Ytjaibpphlbddoaa.Opq.C_now HR4.out (by repeat (first | (with_reducible first | exact HK.out | apply Go.Proofs.Ytjaibpphlbddoaa.Opq.KeepO.drewN | apply Go.Proofs.Ytjaibpphlbddoaa.Opq.KeepO.drew | apply Go.Proofs.Ytjaibpphlbddoaa.Opq.KeepO.alloc) | exact HK.out)))
                        have ql27 : ((ji21) : Int) ≤ ((ji20) : Int) := of_decide_eq_true (by first | (with_reducible assumption) | assumption)
                        have q027 : (0 : Int) ≤ ((ji21) : Int) := of_decide_eq_true (by first | (with_reducible assumption) | assumption)
                        have hcut27 := cut_mid (P := Try.prog) 22 5 .i64 .i64 Try.underlying22 hi027 1 hsz27 A4 l4.length c4 (ji21) (ji20) q027 ql27 q27 hroom27
                        have hr27 := Kd.C_mid (lo := ((ji21) : Int).toNat) (hi := ((ji20) : Int).toNat) (c := c4) hC27 (by omega) (by omega) hroom27
                        obtain ⟨A27, hA27⟩ : ∃ A1, A1 = (if c4 = ((ji21) : Int).toNat then A4 else (A4 : Option Addr).map (·.add (((ji21) : Int).toNat * 1))) := ⟨_, rfl⟩
                        obtain ⟨c27, hc27⟩ : ∃ c1, c1 = c4 - ((ji21) : Int).toNat := ⟨_, rfl⟩
                        have HF27 := Aside0.mk (show ∀ W_, Go.Proofs.Ytjaibpphlbddoaa.Opq.KeepO ts67 w0.heap.size w W_ → Kd.C (Kd.int .u8) W_ A27 y127.length y127 from fun W_ hk_ => by have hr_ := Kd.C_mid (lo := ((ji21) : Int).toNat) (hi := ((ji20) : Int).toNat) (c := c4) (HR4.out W_ hk_) (by omega) (by omega) hroom27; rw [show ((l4).take ((ji20) : Int).toNat).drop ((ji21) : Int).toNat = y127 from Ny127.out.symm] at hr_; rw [hA27]; exact hr_)
                        have hy27 : y127.length = ((ji20) : Int).toNat - ((ji21) : Int).toNat := (by rw [Ny127.out, List.length_drop, List.length_take] <;> omega)
                        rw [show ((l4).take ((ji20) : Int).toNat).drop ((ji21) : Int).toNat = y127 from Ny127.out.symm] at hr27
                        replace hr27 : Kd.C (Kd.int .u8) _ A27 y127.length y127 := (by rw [hA27]; exact hr27)
                        rw [← hy27, ← hA27, ← hc27] at hcut27
                        have HR130 := Aside0.mk hr27
                        have HC130 := Aside0.mk (show y127.length ≤ c27 from by rw [hy27, hc27]; exact Nat.sub_le_sub_right (Nat.le_trans (by omega) hroom27) _)
                        clear hr27 hC27 hroom27 hi027 hsz27 hc27
                        have KY27 := Aside0.mk hy27
                        have KA27 := Aside0.mk hA27
                        clear hy27 hA27
                        have KL27 := Aside0.mk (show ((ji20) : Int).toNat ≤ l4.length from by omega)
                        have KM27 := Aside0.mk (show ((ji21) : Int).toNat ≤ ((ji20) : Int).toNat from by omega)
                        replace q27 := eq_true q27
                        go_wp2_with (first | ((with_reducible refine gate_callee (f := 14) rfl ?_); refine goesL_ (some 65) rfl rfl Try.func14 (by kernel_rfl) rfl #[.pointer (some ⟨g, 0, none⟩), .int .i64 (wrap64 (a1 + x13_2)), .slice A27 y127.length c27] rfl (by (try simp only [List.map_toArray, List.map_cons, List.map_nil]); first | done | rfl | (simp only [List.length_drop, List.length_take]; rfl)) ?_; (with_reducible refine (sector_Disk_Write.calls g x1000_2 (wrap64 (a1 + x13_2)) _ _ y127 t131 t132 w0 _ ?side1 ?side2 ?side3 ?side4 A25.out).mono ?_); (case side1 => repeat (first | (with_reducible first | exact HI0.out | apply IsS67.alloc | apply IsS67.drewN | apply IsS67.drew) | exact HI0.out)); (case side2 => repeat (first | (with_reducible first | exact HB.out | apply below_alloc | apply pw_below_drewN | apply below_drew1 | refine below_set ?_ (IsS67.ge HI0.out)) | exact HB.out)); (case side3 => exact Go.Proofs.Ytjaibpphlbddoaa.Opq.C_step HF27.out (by repeat (first | (with_reducible first | exact HK.out | apply Go.Proofs.Ytjaibpphlbddoaa.Opq.KeepO.drewN | apply Go.Proofs.Ytjaibpphlbddoaa.Opq.KeepO.drew | apply Go.Proofs.Ytjaibpphlbddoaa.Opq.KeepO.alloc) | exact HK.out))); (case side4 => exact HC130.out); rintro e w28 ⟨rfl, hi, hb, hk⟩; refine ⟨_, rfl, ?_⟩; have n0_ := Aside0.mk (Go.Proofs.Ytjaibpphlbddoaa.Opq.KeepO.trans (by repeat (first | (with_reducible first | exact HK.out | apply Go.Proofs.Ytjaibpphlbddoaa.Opq.KeepO.drewN | apply Go.Proofs.Ytjaibpphlbddoaa.Opq.KeepO.drew | apply Go.Proofs.Ytjaibpphlbddoaa.Opq.KeepO.alloc) | exact HK.out)) hk); have n1_ := Aside0.mk (hb); have n2_ := Aside0.mk (hi); clear HK; clear HB; clear HI0; have HK := n0_; have HB := n1_; have HI0 := n2_; clear n0_ n1_ n2_; (try clear hb); (try clear hb2); (try clear hk); (try clear hi)))
                        go_roundg k2
                        case measure => have := HJ5.out; have := HK2.out; omega
                        case rel => exact ⟨(wrap64 (x13_2 + 1)), (t132), (by first | rfl | (simp; done) | (simp [*]; done)), H', ⟨by have := HJ5.out; have := HK2.out; omega⟩, ⟨by repeat (first | (with_reducible first | exact HI0.out | apply IsS67.alloc | apply IsS67.drewN | apply IsS67.drew) | exact HI0.out)⟩, ⟨by repeat (first | (with_reducible first | exact HK.out | apply Go.Proofs.Ytjaibpphlbddoaa.Opq.KeepO.drewN | apply Go.Proofs.Ytjaibpphlbddoaa.Opq.KeepO.drew | apply Go.Proofs.Ytjaibpphlbddoaa.Opq.KeepO.alloc) | exact HK.out)⟩, ⟨by repeat (first | (with_reducible first | exact HB.out | apply below_alloc | apply pw_below_drewN | apply below_drew1 | refine below_set ?_ (IsS67.ge HI0.out)) | exact HB.out)⟩⟩
                      · rw [if_neg c26] at H
                        have c26b0 : (t131 == 0) = false := beq_eq_false_iff_ne.mpr c26
                        have c26b1 : (t131 != 0) = true := bne_iff_ne.mpr c26
                        simp only [Option.some.injEq, Prod.mk.injEq] at H
                        obtain ⟨rfl, rfl, rfl⟩ := H
                        have q29 : ((ji20) : Int) ≤ ((l4.length : Int) : Int) := of_decide_eq_true (by first | (with_reducible assumption) | assumption)
                        obtain ⟨i029, hi029, _, hsz29, _⟩ := info_parts info5
                        have hroom29 : l4.length ≤ c4 := HC4.out
                        have hC29 : Kd.C (Kd.int .u8) _ A4 l4.length l4 := (Go.Proofs.Ytjaibpphlbddoaa.Opq.C_now HR4.out (by repeat (first | (with_reducible first | exact HK.out | apply Go.Proofs.Ytjaibpphlbddoaa.Opq.KeepO.drewN | apply Go.Proofs.Ytjaibpphlbddoaa.Opq.KeepO.drew | apply Go.Proofs.Ytjaibpphlbddoaa.Opq.KeepO.alloc) | exact HK.out)))
                        have ql29 : ((ji21) : Int) ≤ ((ji20) : Int) := of_decide_eq_true (by first | (with_reducible assumption) | assumption)
                        have q029 : (0 : Int) ≤ ((ji21) : Int) := of_decide_eq_true (by first | (with_reducible assumption) | assumption)
                        have hcut29 := cut_mid (P := Try.prog) 22 5 .i64 .i64 Try.underlying22 hi029 1 hsz29 A4 l4.length c4 (ji21) (ji20) q029 ql29 q29 hroom29
                        have hr29 := Kd.C_mid (lo := ((ji21) : Int).toNat) (hi := ((ji20) : Int).toNat) (c := c4) hC29 (by omega) (by omega) hroom29
                        obtain ⟨A29, hA29⟩ : ∃ A1, A1 = (if c4 = ((ji21) : Int).toNat then A4 else (A4 : Option Addr).map (·.add (((ji21) : Int).toNat * 1))) := ⟨_, rfl⟩
                        obtain ⟨c29, hc29⟩ : ∃ c1, c1 = c4 - ((ji21) : Int).toNat := ⟨_, rfl⟩
                        have HF29 := Aside0.mk (show ∀ W_, Go.Proofs.Ytjaibpphlbddoaa.Opq.KeepO ts67 w0.heap.size w W_ → Kd.C (Kd.int .u8) W_ A29 y127.length y127 from fun W_ hk_ => by have hr_ := Kd.C_mid (lo := ((ji21) : Int).toNat) (hi := ((ji20) : Int).toNat) (c := c4) (HR4.out W_ hk_) (by omega) (by omega) hroom29; rw [show ((l4).take ((ji20) : Int).toNat).drop ((ji21) : Int).toNat = y127 from Ny127.out.symm] at hr_; rw [hA29]; exact hr_)
                        have hy29 : y127.length = ((ji20) : Int).toNat - ((ji21) : Int).toNat := (by rw [Ny127.out, List.length_drop, List.length_take] <;> omega)
                        rw [show ((l4).take ((ji20) : Int).toNat).drop ((ji21) : Int).toNat = y127 from Ny127.out.symm] at hr29
                        replace hr29 : Kd.C (Kd.int .u8) _ A29 y127.length y127 := (by rw [hA29]; exact hr29)
                        rw [← hy29, ← hA29, ← hc29] at hcut29
                        have HR130 := Aside0.mk hr29
                        have HC130 := Aside0.mk (show y127.length ≤ c29 from by rw [hy29, hc29]; exact Nat.sub_le_sub_right (Nat.le_trans (by omega) hroom29) _)
                        clear hr29 hC29 hroom29 hi029 hsz29 hc29
                        have KY29 := Aside0.mk hy29
                        have KA29 := Aside0.mk hA29
                        clear hy29 hA29
                        have KL29 := Aside0.mk (show ((ji20) : Int).toNat ≤ l4.length from by omega)
                        have KM29 := Aside0.mk (show ((ji21) : Int).toNat ≤ ((ji20) : Int).toNat from by omega)
                        replace q29 := eq_true q29
                        go_wp2_with (first | ((with_reducible refine gate_callee (f := 14) rfl ?_); refine goesL_ (some 65) rfl rfl Try.func14 (by kernel_rfl) rfl #[.pointer (some ⟨g, 0, none⟩), .int .i64 (wrap64 (a1 + x13_2)), .slice A29 y127.length c29] rfl (by (try simp only [List.map_toArray, List.map_cons, List.map_nil]); first | done | rfl | (simp only [List.length_drop, List.length_take]; rfl)) ?_; (with_reducible refine (sector_Disk_Write.calls g x1000_2 (wrap64 (a1 + x13_2)) _ _ y127 t131 t132 w0 _ ?side1 ?side2 ?side3 ?side4 A25.out).mono ?_); (case side1 => repeat (first | (with_reducible first | exact HI0.out | apply IsS67.alloc | apply IsS67.drewN | apply IsS67.drew) | exact HI0.out)); (case side2 => repeat (first | (with_reducible first | exact HB.out | apply below_alloc | apply pw_below_drewN | apply below_drew1 | refine below_set ?_ (IsS67.ge HI0.out)) | exact HB.out)); (case side3 => exact Go.Proofs.Ytjaibpphlbddoaa.Opq.C_step HF29.out (by repeat (first | (with_reducible first | exact HK.out | apply Go.Proofs.Ytjaibpphlbddoaa.Opq.KeepO.drewN | apply Go.Proofs.Ytjaibpphlbddoaa.Opq.KeepO.drew | apply Go.Proofs.Ytjaibpphlbddoaa.Opq.KeepO.alloc) | exact HK.out))); (case side4 => exact HC130.out); rintro e w30 ⟨rfl, hi, hb, hk⟩; refine ⟨_, rfl, ?_⟩; have n0_ := Aside0.mk (Go.Proofs.Ytjaibpphlbddoaa.Opq.KeepO.trans (by repeat (first | (with_reducible first | exact HK.out | apply Go.Proofs.Ytjaibpphlbddoaa.Opq.KeepO.drewN | apply Go.Proofs.Ytjaibpphlbddoaa.Opq.KeepO.drew | apply Go.Proofs.Ytjaibpphlbddoaa.Opq.KeepO.alloc) | exact HK.out)) hk); have n1_ := Aside0.mk (hb); have n2_ := Aside0.mk (hi); clear HK; clear HB; clear HI0; have HK := n0_; have HB := n1_; have HI0 := n2_; clear n0_ n1_ n2_; (try clear hb); (try clear hb2); (try clear hk); (try clear hi)))
                        go_ret2
                        exact ⟨by first | rfl | (simp [errW_none, errW_some] <;> rfl) | (simp only [← hji13, ← hji20, ← hji21]; first | rfl | (simp [errW_none, errW_some] <;> rfl)) | (simp [*, errW_none, errW_some] <;> rfl), by repeat (first | (with_reducible first | exact HI0.out | apply IsS67.alloc | apply IsS67.drewN | apply IsS67.drew) | exact HI0.out), by repeat (first | (with_reducible first | exact HB.out | apply below_alloc | apply pw_below_drewN | apply below_drew1 | refine below_set ?_ (IsS67.ge HI0.out)) | exact HB.out), by repeat (first | (with_reducible first | exact HK.out | apply Go.Proofs.Ytjaibpphlbddoaa.Opq.KeepO.drewN | apply Go.Proofs.Ytjaibpphlbddoaa.Opq.KeepO.drew | apply Go.Proofs.Ytjaibpphlbddoaa.Opq.KeepO.alloc) | exact HK.out)⟩
                    · rw [if_neg c24] at H
                      exact absurd H (by simp)
                  · rw [if_neg c23] at H
                    exact absurd H (by simp)
                · rw [if_neg c22] at H
                  exact absurd H (by simp)
              · rw [if_neg c19] at H
                have c19b0 : decide (x13_2 < t124) = false := decide_eq_false c19
                clear c19
                replace H := Option.bind_eq_some_iff.mp H
                obtain ⟨⟨t133, t134⟩, A310, H⟩ := H
                replace H : (if t133 = 0 then ((region_first.f k2 a3 l4).bind fun t135 => ((sector_Disk_Write.f t134 a1 t135).bind fun bt138 => (if bt138.1 = 0 then ((sector_Disk_Flush.f bt138.2).bind fun bt140 => (if bt140.1 = 0 then (some (wrap64 (a1 + t124), 0, bt140.2)) else (some (0, bt140.1, bt140.2)))) else (some (0, bt138.1, bt138.2))))) else (some (0, t133, t134))) = some (r1, r2, r3) := H
                have A31 := Aside0.mk A310
                clear A310
                by_cases c32 : t133 = 0
                · rw [if_pos c32] at H
                  have c32b0 : (t133 == 0) = true := beq_iff_eq.mpr c32
                  have c32b1 : (t133 != 0) = false := bne_eq_false_iff_eq.mpr c32
                  clear c32
                  replace H := Option.bind_eq_some_iff.mp H
                  obtain ⟨t135, A330, H⟩ := H
                  replace H : ((sector_Disk_Write.f t134 a1 t135).bind fun bt138 => (if bt138.1 = 0 then ((sector_Disk_Flush.f bt138.2).bind fun bt140 => (if bt140.1 = 0 then (some (wrap64 (a1 + t124), 0, bt140.2)) else (some (0, bt140.1, bt140.2)))) else (some (0, bt138.1, bt138.2)))) = some (r1, r2, r3) := H
                  have A33 := Aside0.mk A330
                  clear A330
                  replace H := Option.bind_eq_some_iff.mp H
                  obtain ⟨⟨t138, t139⟩, A340, H⟩ := H
                  replace H : (if t138 = 0 then ((sector_Disk_Flush.f t139).bind fun bt140 => (if bt140.1 = 0 then (some (wrap64 (a1 + t124), 0, bt140.2)) else (some (0, bt140.1, bt140.2)))) else (some (0, t138, t139))) = some (r1, r2, r3) := H
                  have A34 := Aside0.mk A340
                  clear A340
                  by_cases c35 : t138 = 0
                  · rw [if_pos c35] at H
                    have c35b0 : (t138 == 0) = true := beq_iff_eq.mpr c35
                    have c35b1 : (t138 != 0) = false := bne_eq_false_iff_eq.mpr c35
                    clear c35
                    replace H := Option.bind_eq_some_iff.mp H
                    obtain ⟨⟨t140, t141⟩, A360, H⟩ := H
                    replace H : (if t140 = 0 then (some (wrap64 (a1 + t124), 0, t141)) else (some (0, t140, t141))) = some (r1, r2, r3) := H
                    have A36 := Aside0.mk A360
                    clear A360
                    by_cases c37 : t140 = 0
                    · rw [if_pos c37] at H
                      have c37b0 : (t140 == 0) = true := beq_iff_eq.mpr c37
                      have c37b1 : (t140 != 0) = false := bne_eq_false_iff_eq.mpr c37
                      clear c37
                      simp only [Option.some.injEq, Prod.mk.injEq] at H
                      obtain ⟨rfl, rfl, rfl⟩ := H
                      go_wp2_with (first | ((with_reducible refine gate_callee (f := 19) rfl ?_); refine goesL_ (some 70) rfl rfl Try.func19 (by kernel_rfl) rfl #[.pointer (some ⟨g, 0, none⟩)] rfl (by (try simp only [List.map_toArray, List.map_cons, List.map_nil]); first | done | rfl | (simp only [List.length_drop, List.length_take]; rfl)) ?_; (with_reducible refine (sector_Disk_Flush.calls g x1000_2 t133 t134 w0 _ ?side1 ?side2 A31.out).mono ?_); (case side1 => repeat (first | (with_reducible first | exact HI0.out | apply IsS67.alloc | apply IsS67.drewN | apply IsS67.drew) | exact HI0.out)); (case side2 => repeat (first | (with_reducible first | exact HB.out | apply below_alloc | apply pw_below_drewN | apply below_drew1 | refine below_set ?_ (IsS67.ge HI0.out)) | exact HB.out)); rintro e w38 ⟨rfl, hi, hb, hk⟩; refine ⟨_, rfl, ?_⟩; have n0_ := Aside0.mk (Go.Proofs.Ytjaibpphlbddoaa.Opq.KeepO.trans (by repeat (first | (with_reducible first | exact HK.out | apply Go.Proofs.Ytjaibpphlbddoaa.Opq.KeepO.drewN | apply Go.Proofs.Ytjaibpphlbddoaa.Opq.KeepO.drew | apply Go.Proofs.Ytjaibpphlbddoaa.Opq.KeepO.alloc) | exact HK.out)) hk); have n1_ := Aside0.mk (hb); have n2_ := Aside0.mk (hi); clear HK; clear HB; clear HI0; have HK := n0_; have HB := n1_; have HI0 := n2_; clear n0_ n1_ n2_; (try clear hb); (try clear hb2); (try clear hk); (try clear hi)) | ((with_reducible refine gate_callee (f := 39) rfl ?_); refine goesL_ (some 78) rfl rfl Try.func39 (by kernel_rfl) rfl #[.int .i64 a3, .slice A4 l4.length c4] rfl (by (try simp only [List.map_toArray, List.map_cons, List.map_nil]); first | done | rfl | (simp only [List.length_drop, List.length_take]; rfl)) ?_; (with_reducible refine (region_first.calls k2 a3 _ _ l4 t135 _ ?side1 ?side2 A33.out).mono ?_); (case side1 => exact Go.Proofs.Ytjaibpphlbddoaa.Opq.C_now HR4.out (by repeat (first | (with_reducible first | exact HK.out | apply Go.Proofs.Ytjaibpphlbddoaa.Opq.KeepO.drewN | apply Go.Proofs.Ytjaibpphlbddoaa.Opq.KeepO.drew | apply Go.Proofs.Ytjaibpphlbddoaa.Opq.KeepO.alloc) | exact HK.out))); (case side2 => exact HC4.out); rintro e w39 ⟨v136, rfl, ho0, hb⟩; refine ⟨_, rfl, ?_⟩; have n0_ := Aside0.mk (Kd.R_lower ho0 (Go.Proofs.Ytjaibpphlbddoaa.Opq.KeepO.size (by repeat (first | (with_reducible first | exact HK.out | apply Go.Proofs.Ytjaibpphlbddoaa.Opq.KeepO.drewN | apply Go.Proofs.Ytjaibpphlbddoaa.Opq.KeepO.drew | apply Go.Proofs.Ytjaibpphlbddoaa.Opq.KeepO.alloc) | exact HK.out)))); have n1_ := Aside0.mk (IsS67.below (by repeat (first | (with_reducible first | exact HI0.out | apply IsS67.alloc | apply IsS67.drewN | apply IsS67.drew) | exact HI0.out)) hb); have n2_ := Aside0.mk (Go.Proofs.Ytjaibpphlbddoaa.Opq.KeepO.trans (by repeat (first | (with_reducible first | exact HK.out | apply Go.Proofs.Ytjaibpphlbddoaa.Opq.KeepO.drewN | apply Go.Proofs.Ytjaibpphlbddoaa.Opq.KeepO.drew | apply Go.Proofs.Ytjaibpphlbddoaa.Opq.KeepO.alloc) | exact HK.out)) (Go.Proofs.Ytjaibpphlbddoaa.Opq.KeepO.of_below hb)); have n3_ := Aside0.mk (below_step (by repeat (first | (with_reducible first | exact HB.out | apply below_alloc | apply pw_below_drewN | apply below_drew1 | refine below_set ?_ (IsS67.ge HI0.out)) | exact HB.out)) hb); clear HI0; clear HK; clear HB; have HO137 := n0_; have HI0 := n1_; have HK := n2_; have HB := n3_; clear n0_ n1_ n2_ n3_; (try clear hb); (try clear hb2); (try clear hk); (try clear hi); (try clear ho0); obtain ⟨Ao40, co40, eo40⟩ := Kd.R_slice HO137.out; subst eo40) | ((with_reducible refine gate_callee (f := 14) rfl ?_); refine goesL_ (some 79) rfl rfl Try.func14 (by kernel_rfl) rfl #[.pointer (some ⟨g, 0, none⟩), .int .i64 a1, .slice Ao40 t135.length co40] rfl (by (try simp only [List.map_toArray, List.map_cons, List.map_nil]); first | done | rfl | (simp only [List.length_drop, List.length_take]; rfl)) ?_; (with_reducible refine (sector_Disk_Write.calls g t134 a1 _ _ t135 t138 t139 w0 _ ?side1 ?side2 ?side3 ?side4 A34.out).mono ?_); (case side1 => repeat (first | (with_reducible first | exact HI0.out | apply IsS67.alloc | apply IsS67.drewN | apply IsS67.drew) | exact HI0.out)); (case side2 => repeat (first | (with_reducible first | exact HB.out | apply below_alloc | apply pw_below_drewN | apply below_drew1 | refine below_set ?_ (IsS67.ge HI0.out)) | exact HB.out)); (case side3 => exact Go.Proofs.Ytjaibpphlbddoaa.Opq.C_ownR (by (with_reducible repeat (first | apply Kd.R_alloc | apply Kd.R_drewN | apply Kd.R_drew)); exact HO137.out) (by decide)); (case side4 => exact (Kd.R_reads' HO137.out).2.1); rintro e w41 ⟨rfl, hi, hb, hk⟩; refine ⟨_, rfl, ?_⟩; have n0_ := Aside0.mk (Go.Proofs.Ytjaibpphlbddoaa.Opq.R_keep (by (with_reducible repeat (first | apply Kd.R_alloc | apply Kd.R_drewN | apply Kd.R_drew)); exact HO137.out) hk (by decide)); have n1_ := Aside0.mk (Go.Proofs.Ytjaibpphlbddoaa.Opq.KeepO.trans (by repeat (first | (with_reducible first | exact HK.out | apply Go.Proofs.Ytjaibpphlbddoaa.Opq.KeepO.drewN | apply Go.Proofs.Ytjaibpphlbddoaa.Opq.KeepO.drew | apply Go.Proofs.Ytjaibpphlbddoaa.Opq.KeepO.alloc) | exact HK.out)) hk); have n2_ := Aside0.mk (hb); have n3_ := Aside0.mk (hi); clear HO137; clear HK; clear HB; clear HI0; have HO137 := n0_; have HK := n1_; have HB := n2_; have HI0 := n3_; clear n0_ n1_ n2_ n3_; (try clear hb); (try clear hb2); (try clear hk); (try clear hi)) | ((with_reducible refine gate_callee (f := 19) rfl ?_); refine goesL_ (some 84) rfl rfl Try.func19 (by kernel_rfl) rfl #[.pointer (some ⟨g, 0, none⟩)] rfl (by (try simp only [List.map_toArray, List.map_cons, List.map_nil]); first | done | rfl | (simp only [List.length_drop, List.length_take]; rfl)) ?_; (with_reducible refine (sector_Disk_Flush.calls g t139 t140 t141 w0 _ ?side1 ?side2 A36.out).mono ?_); (case side1 => repeat (first | (with_reducible first | exact HI0.out | apply IsS67.alloc | apply IsS67.drewN | apply IsS67.drew) | exact HI0.out)); (case side2 => repeat (first | (with_reducible first | exact HB.out | apply below_alloc | apply pw_below_drewN | apply below_drew1 | refine below_set ?_ (IsS67.ge HI0.out)) | exact HB.out)); rintro e w42 ⟨rfl, hi, hb, hk⟩; refine ⟨_, rfl, ?_⟩; have n0_ := Aside0.mk (Go.Proofs.Ytjaibpphlbddoaa.Opq.R_keep (by (with_reducible repeat (first | apply Kd.R_alloc | apply Kd.R_drewN | apply Kd.R_drew)); exact HO137.out) hk (by decide)); have n1_ := Aside0.mk (Go.Proofs.Ytjaibpphlbddoaa.Opq.KeepO.trans (by repeat (first | (with_reducible first | exact HK.out | apply Go.Proofs.Ytjaibpphlbddoaa.Opq.KeepO.drewN | apply Go.Proofs.Ytjaibpphlbddoaa.Opq.KeepO.drew | apply Go.Proofs.Ytjaibpphlbddoaa.Opq.KeepO.alloc) | exact HK.out)) hk); have n2_ := Aside0.mk (hb); have n3_ := Aside0.mk (hi); clear HO137; clear HK; clear HB; clear HI0; have HO137 := n0_; have HK := n1_; have HB := n2_; have HI0 := n3_; clear n0_ n1_ n2_ n3_; (try clear hb); (try clear hb2); (try clear hk); (try clear hi)))
                      go_ret2
                      exact ⟨by first | rfl | (simp [errW_none, errW_some] <;> rfl) | (simp only [← hji13]; first | rfl | (simp [errW_none, errW_some] <;> rfl)) | (simp [*, errW_none, errW_some] <;> rfl), by repeat (first | (with_reducible first | exact HI0.out | apply IsS67.alloc | apply IsS67.drewN | apply IsS67.drew) | exact HI0.out), by repeat (first | (with_reducible first | exact HB.out | apply below_alloc | apply pw_below_drewN | apply below_drew1 | refine below_set ?_ (IsS67.ge HI0.out)) | exact HB.out), by repeat (first | (with_reducible first | exact HK.out | apply Go.Proofs.Ytjaibpphlbddoaa.Opq.KeepO.drewN | apply Go.Proofs.Ytjaibpphlbddoaa.Opq.KeepO.drew | apply Go.Proofs.Ytjaibpphlbddoaa.Opq.KeepO.alloc) | exact HK.out)⟩
                    · rw [if_neg c37] at H
                      have c37b0 : (t140 == 0) = false := beq_eq_false_iff_ne.mpr c37
                      have c37b1 : (t140 != 0) = true := bne_iff_ne.mpr c37
                      simp only [Option.some.injEq, Prod.mk.injEq] at H
                      obtain ⟨rfl, rfl, rfl⟩ := H
                      go_wp2_with (first | ((with_reducible refine gate_callee (f := 19) rfl ?_); refine goesL_ (some 70) rfl rfl Try.func19 (by kernel_rfl) rfl #[.pointer (some ⟨g, 0, none⟩)] rfl (by (try simp only [List.map_toArray, List.map_cons, List.map_nil]); first | done | rfl | (simp only [List.length_drop, List.length_take]; rfl)) ?_; (with_reducible refine (sector_Disk_Flush.calls g x1000_2 t133 t134 w0 _ ?side1 ?side2 A31.out).mono ?_); (case side1 => repeat (first | (with_reducible first | exact HI0.out | apply IsS67.alloc | apply IsS67.drewN | apply IsS67.drew) | exact HI0.out)); (case side2 => repeat (first | (with_reducible first | exact HB.out | apply below_alloc | apply pw_below_drewN | apply below_drew1 | refine below_set ?_ (IsS67.ge HI0.out)) | exact HB.out)); rintro e w43 ⟨rfl, hi, hb, hk⟩; refine ⟨_, rfl, ?_⟩; have n0_ := Aside0.mk (Go.Proofs.Ytjaibpphlbddoaa.Opq.KeepO.trans (by repeat (first | (with_reducible first | exact HK.out | apply Go.Proofs.Ytjaibpphlbddoaa.Opq.KeepO.drewN | apply Go.Proofs.Ytjaibpphlbddoaa.Opq.KeepO.drew | apply Go.Proofs.Ytjaibpphlbddoaa.Opq.KeepO.alloc) | exact HK.out)) hk); have n1_ := Aside0.mk (hb); have n2_ := Aside0.mk (hi); clear HK; clear HB; clear HI0; have HK := n0_; have HB := n1_; have HI0 := n2_; clear n0_ n1_ n2_; (try clear hb); (try clear hb2); (try clear hk); (try clear hi)) | ((with_reducible refine gate_callee (f := 39) rfl ?_); refine goesL_ (some 78) rfl rfl Try.func39 (by kernel_rfl) rfl #[.int .i64 a3, .slice A4 l4.length c4] rfl (by (try simp only [List.map_toArray, List.map_cons, List.map_nil]); first | done | rfl | (simp only [List.length_drop, List.length_take]; rfl)) ?_; (with_reducible refine (region_first.calls k2 a3 _ _ l4 t135 _ ?side1 ?side2 A33.out).mono ?_); (case side1 => exact Go.Proofs.Ytjaibpphlbddoaa.Opq.C_now HR4.out (by repeat (first | (with_reducible first | exact HK.out | apply Go.Proofs.Ytjaibpphlbddoaa.Opq.KeepO.drewN | apply Go.Proofs.Ytjaibpphlbddoaa.Opq.KeepO.drew | apply Go.Proofs.Ytjaibpphlbddoaa.Opq.KeepO.alloc) | exact HK.out))); (case side2 => exact HC4.out); rintro e w44 ⟨v136, rfl, ho0, hb⟩; refine ⟨_, rfl, ?_⟩; have n0_ := Aside0.mk (Kd.R_lower ho0 (Go.Proofs.Ytjaibpphlbddoaa.Opq.KeepO.size (by repeat (first | (with_reducible first | exact HK.out | apply Go.Proofs.Ytjaibpphlbddoaa.Opq.KeepO.drewN | apply Go.Proofs.Ytjaibpphlbddoaa.Opq.KeepO.drew | apply Go.Proofs.Ytjaibpphlbddoaa.Opq.KeepO.alloc) | exact HK.out)))); have n1_ := Aside0.mk (IsS67.below (by repeat (first | (with_reducible first | exact HI0.out | apply IsS67.alloc | apply IsS67.drewN | apply IsS67.drew) | exact HI0.out)) hb); have n2_ := Aside0.mk (Go.Proofs.Ytjaibpphlbddoaa.Opq.KeepO.trans (by repeat (first | (with_reducible first | exact HK.out | apply Go.Proofs.Ytjaibpphlbddoaa.Opq.KeepO.drewN | apply Go.Proofs.Ytjaibpphlbddoaa.Opq.KeepO.drew | apply Go.Proofs.Ytjaibpphlbddoaa.Opq.KeepO.alloc) | exact HK.out)) (Go.Proofs.Ytjaibpphlbddoaa.Opq.KeepO.of_below hb)); have n3_ := Aside0.mk (below_step (by repeat (first | (with_reducible first | exact HB.out | apply below_alloc | apply pw_below_drewN | apply below_drew1 | refine below_set ?_ (IsS67.ge HI0.out)) | exact HB.out)) hb); clear HI0; clear HK; clear HB; have HO137 := n0_; have HI0 := n1_; have HK := n2_; have HB := n3_; clear n0_ n1_ n2_ n3_; (try clear hb); (try clear hb2); (try clear hk); (try clear hi); (try clear ho0); obtain ⟨Ao45, co45, eo45⟩ := Kd.R_slice HO137.out; subst eo45) | ((with_reducible refine gate_callee (f := 14) rfl ?_); refine goesL_ (some 79) rfl rfl Try.func14 (by kernel_rfl) rfl #[.pointer (some ⟨g, 0, none⟩), .int .i64 a1, .slice Ao45 t135.length co45] rfl (by (try simp only [List.map_toArray, List.map_cons, List.map_nil]); first | done | rfl | (simp only [List.length_drop, List.length_take]; rfl)) ?_; (with_reducible refine (sector_Disk_Write.calls g t134 a1 _ _ t135 t138 t139 w0 _ ?side1 ?side2 ?side3 ?side4 A34.out).mono ?_); (case side1 => repeat (first | (with_reducible first | exact HI0.out | apply IsS67.alloc | apply IsS67.drewN | apply IsS67.drew) | exact HI0.out)); (case side2 => repeat (first | (with_reducible first | exact HB.out | apply below_alloc | apply pw_below_drewN | apply below_drew1 | refine below_set ?_ (IsS67.ge HI0.out)) | exact HB.out)); (case side3 => exact Go.Proofs.Ytjaibpphlbddoaa.Opq.C_ownR (by (with_reducible repeat (first | apply Kd.R_alloc | apply Kd.R_drewN | apply Kd.R_drew)); exact HO137.out) (by decide)); (case side4 => exact (Kd.R_reads' HO137.out).2.1); rintro e w46 ⟨rfl, hi, hb, hk⟩; refine ⟨_, rfl, ?_⟩; have n0_ := Aside0.mk (Go.Proofs.Ytjaibpphlbddoaa.Opq.R_keep (by (with_reducible repeat (first | apply Kd.R_alloc | apply Kd.R_drewN | apply Kd.R_drew)); exact HO137.out) hk (by decide)); have n1_ := Aside0.mk (Go.Proofs.Ytjaibpphlbddoaa.Opq.KeepO.trans (by repeat (first | (with_reducible first | exact HK.out | apply Go.Proofs.Ytjaibpphlbddoaa.Opq.KeepO.drewN | apply Go.Proofs.Ytjaibpphlbddoaa.Opq.KeepO.drew | apply Go.Proofs.Ytjaibpphlbddoaa.Opq.KeepO.alloc) | exact HK.out)) hk); have n2_ := Aside0.mk (hb); have n3_ := Aside0.mk (hi); clear HO137; clear HK; clear HB; clear HI0; have HO137 := n0_; have HK := n1_; have HB := n2_; have HI0 := n3_; clear n0_ n1_ n2_ n3_; (try clear hb); (try clear hb2); (try clear hk); (try clear hi)) | ((with_reducible refine gate_callee (f := 19) rfl ?_); refine goesL_ (some 84) rfl rfl Try.func19 (by kernel_rfl) rfl #[.pointer (some ⟨g, 0, none⟩)] rfl (by (try simp only [List.map_toArray, List.map_cons, List.map_nil]); first | done | rfl | (simp only [List.length_drop, List.length_take]; rfl)) ?_; (with_reducible refine (sector_Disk_Flush.calls g t139 t140 t141 w0 _ ?side1 ?side2 A36.out).mono ?_); (case side1 => repeat (first | (with_reducible first | exact HI0.out | apply IsS67.alloc | apply IsS67.drewN | apply IsS67.drew) | exact HI0.out)); (case side2 => repeat (first | (with_reducible first | exact HB.out | apply below_alloc | apply pw_below_drewN | apply below_drew1 | refine below_set ?_ (IsS67.ge HI0.out)) | exact HB.out)); rintro e w47 ⟨rfl, hi, hb, hk⟩; refine ⟨_, rfl, ?_⟩; have n0_ := Aside0.mk (Go.Proofs.Ytjaibpphlbddoaa.Opq.R_keep (by (with_reducible repeat (first | apply Kd.R_alloc | apply Kd.R_drewN | apply Kd.R_drew)); exact HO137.out) hk (by decide)); have n1_ := Aside0.mk (Go.Proofs.Ytjaibpphlbddoaa.Opq.KeepO.trans (by repeat (first | (with_reducible first | exact HK.out | apply Go.Proofs.Ytjaibpphlbddoaa.Opq.KeepO.drewN | apply Go.Proofs.Ytjaibpphlbddoaa.Opq.KeepO.drew | apply Go.Proofs.Ytjaibpphlbddoaa.Opq.KeepO.alloc) | exact HK.out)) hk); have n2_ := Aside0.mk (hb); have n3_ := Aside0.mk (hi); clear HO137; clear HK; clear HB; clear HI0; have HO137 := n0_; have HK := n1_; have HB := n2_; have HI0 := n3_; clear n0_ n1_ n2_ n3_; (try clear hb); (try clear hb2); (try clear hk); (try clear hi)))
                      go_ret2
                      exact ⟨by first | rfl | (simp [errW_none, errW_some] <;> rfl) | (simp only [← hji13]; first | rfl | (simp [errW_none, errW_some] <;> rfl)) | (simp [*, errW_none, errW_some] <;> rfl), by repeat (first | (with_reducible first | exact HI0.out | apply IsS67.alloc | apply IsS67.drewN | apply IsS67.drew) | exact HI0.out), by repeat (first | (with_reducible first | exact HB.out | apply below_alloc | apply pw_below_drewN | apply below_drew1 | refine below_set ?_ (IsS67.ge HI0.out)) | exact HB.out), by repeat (first | (with_reducible first | exact HK.out | apply Go.Proofs.Ytjaibpphlbddoaa.Opq.KeepO.drewN | apply Go.Proofs.Ytjaibpphlbddoaa.Opq.KeepO.drew | apply Go.Proofs.Ytjaibpphlbddoaa.Opq.KeepO.alloc) | exact HK.out)⟩
                  · rw [if_neg c35] at H
                    have c35b0 : (t138 == 0) = false := beq_eq_false_iff_ne.mpr c35
                    have c35b1 : (t138 != 0) = true := bne_iff_ne.mpr c35
                    simp only [Option.some.injEq, Prod.mk.injEq] at H
                    obtain ⟨rfl, rfl, rfl⟩ := H
                    go_wp2_with (first | ((with_reducible refine gate_callee (f := 19) rfl ?_); refine goesL_ (some 70) rfl rfl Try.func19 (by kernel_rfl) rfl #[.pointer (some ⟨g, 0, none⟩)] rfl (by (try simp only [List.map_toArray, List.map_cons, List.map_nil]); first | done | rfl | (simp only [List.length_drop, List.length_take]; rfl)) ?_; (with_reducible refine (sector_Disk_Flush.calls g x1000_2 t133 t134 w0 _ ?side1 ?side2 A31.out).mono ?_); (case side1 => repeat (first | (with_reducible first | exact HI0.out | apply IsS67.alloc | apply IsS67.drewN | apply IsS67.drew) | exact HI0.out)); (case side2 => repeat (first | (with_reducible first | exact HB.out | apply below_alloc | apply pw_below_drewN | apply below_drew1 | refine below_set ?_ (IsS67.ge HI0.out)) | exact HB.out)); rintro e w48 ⟨rfl, hi, hb, hk⟩; refine ⟨_, rfl, ?_⟩; have n0_ := Aside0.mk (Go.Proofs.Ytjaibpphlbddoaa.Opq.KeepO.trans (by repeat (first | (with_reducible first | exact HK.out | apply Go.Proofs.Ytjaibpphlbddoaa.Opq.KeepO.drewN | apply Go.Proofs.Ytjaibpphlbddoaa.Opq.KeepO.drew | apply Go.Proofs.Ytjaibpphlbddoaa.Opq.KeepO.alloc) | exact HK.out)) hk); have n1_ := Aside0.mk (hb); have n2_ := Aside0.mk (hi); clear HK; clear HB; clear HI0; have HK := n0_; have HB := n1_; have HI0 := n2_; clear n0_ n1_ n2_; (try clear hb); (try clear hb2); (try clear hk); (try clear hi)) | ((with_reducible refine gate_callee (f := 39) rfl ?_); refine goesL_ (some 78) rfl rfl Try.func39 (by kernel_rfl) rfl #[.int .i64 a3, .slice A4 l4.length c4] rfl (by (try simp only [List.map_toArray, List.map_cons, List.map_nil]); first | done | rfl | (simp only [List.length_drop, List.length_take]; rfl)) ?_; (with_reducible refine (region_first.calls k2 a3 _ _ l4 t135 _ ?side1 ?side2 A33.out).mono ?_); (case side1 => exact Go.Proofs.Ytjaibpphlbddoaa.Opq.C_now HR4.out (by repeat (first | (with_reducible first | exact HK.out | apply Go.Proofs.Ytjaibpphlbddoaa.Opq.KeepO.drewN | apply Go.Proofs.Ytjaibpphlbddoaa.Opq.KeepO.drew | apply Go.Proofs.Ytjaibpphlbddoaa.Opq.KeepO.alloc) | exact HK.out))); (case side2 => exact HC4.out); rintro e w49 ⟨v136, rfl, ho0, hb⟩; refine ⟨_, rfl, ?_⟩; have n0_ := Aside0.mk (Kd.R_lower ho0 (Go.Proofs.Ytjaibpphlbddoaa.Opq.KeepO.size (by repeat (first | (with_reducible first | exact HK.out | apply Go.Proofs.Ytjaibpphlbddoaa.Opq.KeepO.drewN | apply Go.Proofs.Ytjaibpphlbddoaa.Opq.KeepO.drew | apply Go.Proofs.Ytjaibpphlbddoaa.Opq.KeepO.alloc) | exact HK.out)))); have n1_ := Aside0.mk (IsS67.below (by repeat (first | (with_reducible first | exact HI0.out | apply IsS67.alloc | apply IsS67.drewN | apply IsS67.drew) | exact HI0.out)) hb); have n2_ := Aside0.mk (Go.Proofs.Ytjaibpphlbddoaa.Opq.KeepO.trans (by repeat (first | (with_reducible first | exact HK.out | apply Go.Proofs.Ytjaibpphlbddoaa.Opq.KeepO.drewN | apply Go.Proofs.Ytjaibpphlbddoaa.Opq.KeepO.drew | apply Go.Proofs.Ytjaibpphlbddoaa.Opq.KeepO.alloc) | exact HK.out)) (Go.Proofs.Ytjaibpphlbddoaa.Opq.KeepO.of_below hb)); have n3_ := Aside0.mk (below_step (by repeat (first | (with_reducible first | exact HB.out | apply below_alloc | apply pw_below_drewN | apply below_drew1 | refine below_set ?_ (IsS67.ge HI0.out)) | exact HB.out)) hb); clear HI0; clear HK; clear HB; have HO137 := n0_; have HI0 := n1_; have HK := n2_; have HB := n3_; clear n0_ n1_ n2_ n3_; (try clear hb); (try clear hb2); (try clear hk); (try clear hi); (try clear ho0); obtain ⟨Ao50, co50, eo50⟩ := Kd.R_slice HO137.out; subst eo50) | ((with_reducible refine gate_callee (f := 14) rfl ?_); refine goesL_ (some 79) rfl rfl Try.func14 (by kernel_rfl) rfl #[.pointer (some ⟨g, 0, none⟩), .int .i64 a1, .slice Ao50 t135.length co50] rfl (by (try simp only [List.map_toArray, List.map_cons, List.map_nil]); first | done | rfl | (simp only [List.length_drop, List.length_take]; rfl)) ?_; (with_reducible refine (sector_Disk_Write.calls g t134 a1 _ _ t135 t138 t139 w0 _ ?side1 ?side2 ?side3 ?side4 A34.out).mono ?_); (case side1 => repeat (first | (with_reducible first | exact HI0.out | apply IsS67.alloc | apply IsS67.drewN | apply IsS67.drew) | exact HI0.out)); (case side2 => repeat (first | (with_reducible first | exact HB.out | apply below_alloc | apply pw_below_drewN | apply below_drew1 | refine below_set ?_ (IsS67.ge HI0.out)) | exact HB.out)); (case side3 => exact Go.Proofs.Ytjaibpphlbddoaa.Opq.C_ownR (by (with_reducible repeat (first | apply Kd.R_alloc | apply Kd.R_drewN | apply Kd.R_drew)); exact HO137.out) (by decide)); (case side4 => exact (Kd.R_reads' HO137.out).2.1); rintro e w51 ⟨rfl, hi, hb, hk⟩; refine ⟨_, rfl, ?_⟩; have n0_ := Aside0.mk (Go.Proofs.Ytjaibpphlbddoaa.Opq.R_keep (by (with_reducible repeat (first | apply Kd.R_alloc | apply Kd.R_drewN | apply Kd.R_drew)); exact HO137.out) hk (by decide)); have n1_ := Aside0.mk (Go.Proofs.Ytjaibpphlbddoaa.Opq.KeepO.trans (by repeat (first | (with_reducible first | exact HK.out | apply Go.Proofs.Ytjaibpphlbddoaa.Opq.KeepO.drewN | apply Go.Proofs.Ytjaibpphlbddoaa.Opq.KeepO.drew | apply Go.Proofs.Ytjaibpphlbddoaa.Opq.KeepO.alloc) | exact HK.out)) hk); have n2_ := Aside0.mk (hb); have n3_ := Aside0.mk (hi); clear HO137; clear HK; clear HB; clear HI0; have HO137 := n0_; have HK := n1_; have HB := n2_; have HI0 := n3_; clear n0_ n1_ n2_ n3_; (try clear hb); (try clear hb2); (try clear hk); (try clear hi)))
                    go_ret2
                    exact ⟨by first | rfl | (simp [errW_none, errW_some] <;> rfl) | (simp only [← hji13]; first | rfl | (simp [errW_none, errW_some] <;> rfl)) | (simp [*, errW_none, errW_some] <;> rfl), by repeat (first | (with_reducible first | exact HI0.out | apply IsS67.alloc | apply IsS67.drewN | apply IsS67.drew) | exact HI0.out), by repeat (first | (with_reducible first | exact HB.out | apply below_alloc | apply pw_below_drewN | apply below_drew1 | refine below_set ?_ (IsS67.ge HI0.out)) | exact HB.out), by repeat (first | (with_reducible first | exact HK.out | apply Go.Proofs.Ytjaibpphlbddoaa.Opq.KeepO.drewN | apply Go.Proofs.Ytjaibpphlbddoaa.Opq.KeepO.drew | apply Go.Proofs.Ytjaibpphlbddoaa.Opq.KeepO.alloc) | exact HK.out)⟩
                · rw [if_neg c32] at H
                  have c32b0 : (t133 == 0) = false := beq_eq_false_iff_ne.mpr c32
                  have c32b1 : (t133 != 0) = true := bne_iff_ne.mpr c32
                  simp only [Option.some.injEq, Prod.mk.injEq] at H
                  obtain ⟨rfl, rfl, rfl⟩ := H
                  go_wp2_with (first | ((with_reducible refine gate_callee (f := 19) rfl ?_); refine goesL_ (some 70) rfl rfl Try.func19 (by kernel_rfl) rfl #[.pointer (some ⟨g, 0, none⟩)] rfl (by (try simp only [List.map_toArray, List.map_cons, List.map_nil]); first | done | rfl | (simp only [List.length_drop, List.length_take]; rfl)) ?_; (with_reducible refine (sector_Disk_Flush.calls g x1000_2 t133 t134 w0 _ ?side1 ?side2 A31.out).mono ?_); (case side1 => repeat (first | (with_reducible first | exact HI0.out | apply IsS67.alloc | apply IsS67.drewN | apply IsS67.drew) | exact HI0.out)); (case side2 => repeat (first | (with_reducible first | exact HB.out | apply below_alloc | apply pw_below_drewN | apply below_drew1 | refine below_set ?_ (IsS67.ge HI0.out)) | exact HB.out)); rintro e w52 ⟨rfl, hi, hb, hk⟩; refine ⟨_, rfl, ?_⟩; have n0_ := Aside0.mk (Go.Proofs.Ytjaibpphlbddoaa.Opq.KeepO.trans (by repeat (first | (with_reducible first | exact HK.out | apply Go.Proofs.Ytjaibpphlbddoaa.Opq.KeepO.drewN | apply Go.Proofs.Ytjaibpphlbddoaa.Opq.KeepO.drew | apply Go.Proofs.Ytjaibpphlbddoaa.Opq.KeepO.alloc) | exact HK.out)) hk); have n1_ := Aside0.mk (hb); have n2_ := Aside0.mk (hi); clear HK; clear HB; clear HI0; have HK := n0_; have HB := n1_; have HI0 := n2_; clear n0_ n1_ n2_; (try clear hb); (try clear hb2); (try clear hk); (try clear hi)))
                  go_ret2
                  exact ⟨by first | rfl | (simp [errW_none, errW_some] <;> rfl) | (simp only [← hji13]; first | rfl | (simp [errW_none, errW_some] <;> rfl)) | (simp [*, errW_none, errW_some] <;> rfl), by repeat (first | (with_reducible first | exact HI0.out | apply IsS67.alloc | apply IsS67.drewN | apply IsS67.drew) | exact HI0.out), by repeat (first | (with_reducible first | exact HB.out | apply below_alloc | apply pw_below_drewN | apply below_drew1 | refine below_set ?_ (IsS67.ge HI0.out)) | exact HB.out), by repeat (first | (with_reducible first | exact HK.out | apply Go.Proofs.Ytjaibpphlbddoaa.Opq.KeepO.drewN | apply Go.Proofs.Ytjaibpphlbddoaa.Opq.KeepO.drew | apply Go.Proofs.Ytjaibpphlbddoaa.Opq.KeepO.alloc) | exact HK.out)⟩

/-! ### sector_Disk_Read: function 16 -/
-- FN rounds=0 making=1
def sector_Disk_Read.f (s : Disk.DiskM) (a1 : Int) : Option (List Int × Int × Disk.DiskM) := if s.loose.length < 1000000 then (if Disk.there s a1 = true then some (Disk.read s a1, 0, s) else some ([], 1, s)) else none
theorem disk_loose_row {w : World} {go off : Nat} {cur : Array Value} {t : TypeId} {fr : Nat × Nat} {p : Int × List Int} (hp : p.2.length = 64) (hh : w.heap[go]? = some (.cells cur t fr))
    (hc : ∀ j v, (Value.int .i64 p.1 :: Disk.bytes p.2)[j]? = some v → cur.toList[off + j]? = some v) : Kd.C (Kd.int .u8) w (some ⟨go, off + 1, none⟩) 64 p.2 := by
  refine Kd.C_of_reads (d := 0) ⟨hp, by omega, fun _ => ⟨_, rfl, fun j hj => ?_⟩⟩
  have h1 := hc (j + 1) (.int .u8 (p.2.getD j 0)) (by rw [List.getElem?_cons_succ]; exact Disk.bytes_get (by omega))
  have he : (⟨go, off + 1, none⟩ : Addr).add j = ⟨go, off + (j + 1), none⟩ := by unfold Addr.add; split <;> simp_all; omega
  rw [he]
  simp only [World.cell?, hh]
  simpa using h1
set_option maxHeartbeats 4000000 in
set_option maxRecDepth 100000 in
open Go.Proofs.Ytjaibpphlbddoaa.Opq Go.Proofs.Ytjaibpphlbddoaa.Mid in
theorem sector_Disk_Read.calls (g : Nat) (s0_0 : Disk.DiskM) (a1 : Int) (r1 : List Int) (r2 : Int) (r3 : Disk.DiskM) (w0 w : World) (hI : IsS67 w0 w g s0_0) (hB : Below w0.heap.size w0 w) (h : sector_Disk_Read.f s0_0 a1 = some (r1, r2, r3)) :
    Calls Try.prog 16 #[.pointer (some ⟨g, 0, none⟩), .int .i64 a1] w fun e w' => ∃ v0_ : Value, e = .returned (.tuple #[v0_, .int .i64 r2]) ∧ Kd.R (Kd.int .u8) 5 w' w.heap.size (fun _ => True) v0_ r1 ∧ IsS67 w0 w' g r3 ∧ Below w0.heap.size w0 w' ∧ KeepO ts67 w0.heap.size w w' := by
  unfold sector_Disk_Read.f at h
  split at h
  case isFalse => cases h
  case isTrue hlen =>
  have HI := Aside0.mk hI
  have HB := Aside0.mk hB
  have HL := Aside0.mk hlen
  have HM := Aside0.mk (show (s0_0.loose.map (·.1)).length = s0_0.loose.length from List.length_map _)
  clear hlen hB
  cases ht : Disk.there s0_0 a1 with
  | false =>
    rw [ht, if_neg (by simp)] at h
    have h := Option.some.inj h
    injection h with h1 h
    injection h with h2 h3
    subst h1 h2 h3
    have HX := Aside0.mk (sector_Disk_Lasts.calls g s0_0 a1 [] 1 s0_0 w0 w HI.out HB.out (by unfold sector_Disk_Lasts.f; rw [ht]; rfl))
    clear hI h ht
    go_enter Try.func16, Try.ntmps16
    go_wp2_with fail
    refine HX.out.mono ?_
    rintro e w1 ⟨v0, rfl, ho0, hi1, hb1, hk1⟩
    have HO1 := Aside0.mk ho0
    have HI1 := Aside0.mk hi1
    have HB1 := Aside0.mk hb1
    have HK1 := Aside0.mk hk1
    clear HX ho0 hi1 hb1 hk1
    go_wp2_with fail
    refine (sector_Disk_Pending.calls0 g s0_0 w0 w1 HI1.out HL.out).mono ?_
    rintro e w2 ⟨v1, rfl, ho1, hb2⟩
    obtain ⟨A2, c2, rfl, _⟩ := Kd.R_reads ho1
    rw [HM.out]
    have HB2 := Aside0.mk hb2
    clear ho1 hb2
    go_wp2_with fail
    refine wp_loop_rounds 1 ?_
    rw [rounds_succ]
    by_cases hl : RowKit.wrap64 ((s0_0.loose.length : Int) - 1) ≥ 0
    · have d0 : decide (RowKit.wrap64 ((s0_0.loose.length : Int) - 1) ≥ 0) = true := decide_eq_true hl
      clear hl
      go_wp2
      go_ret2
      exact ⟨_, rfl, Kd.R_below HO1.out HB2.out, HI1.out.below HB2.out, below_weaken HB1.out HB1.out.size HB2.out, HK1.out.below_trans HB2.out⟩
    · have d0 : decide (RowKit.wrap64 ((s0_0.loose.length : Int) - 1) ≥ 0) = false := decide_eq_false hl
      clear hl
      go_wp2
      go_ret2
      exact ⟨_, rfl, Kd.R_below HO1.out HB2.out, HI1.out.below HB2.out, below_weaken HB1.out HB1.out.size HB2.out, HK1.out.below_trans HB2.out⟩
  | true =>
    rw [ht, if_pos rfl] at h
    have h := Option.some.inj h
    injection h with h1 h
    injection h with h2 h3
    subst h1 h2 h3
    have HX := Aside0.mk (sector_Disk_Lasts.calls g s0_0 a1 (Disk.sector s0_0.lasts a1) 0 s0_0 w0 w HI.out HB.out (by unfold sector_Disk_Lasts.f; rw [ht]; rfl))
    clear hI h ht
    go_enter Try.func16, Try.ntmps16
    go_wp2_with fail
    refine HX.out.mono ?_
    rintro e w1 ⟨v0, rfl, ho0, hi1, hb1, hk1⟩
    have HO1 := Aside0.mk ho0
    have HI1 := Aside0.mk hi1
    have HB1 := Aside0.mk hb1
    have HK1 := Aside0.mk hk1
    clear HX ho0 hi1 hb1 hk1
    go_wp2_with fail
    refine (sector_Disk_Pending.calls0 g s0_0 w0 w1 HI1.out HL.out).mono ?_
    rintro e w2 ⟨v1, rfl, ho1, hb2⟩
    obtain ⟨A2, c2, rfl, _⟩ := Kd.R_reads ho1
    rw [HM.out]
    have HI2 := Aside0.mk (HI1.out.below hb2)
    have HO2 := Aside0.mk (Kd.R_below HO1.out hb2)
    have HBB := Aside0.mk (below_weaken HB1.out HB1.out.size hb2)
    have HK2 := Aside0.mk (HK1.out.below_trans hb2)
    clear ho1 hb2 HI1 HO1 HB1 HK1 HI HB
    go_wp2_with fail
    go_loopg [8] (s0_0.loose.length + 1) (fun kq v8 wr => ∃ x : Int, v8 = .int .i64 x ∧ Aside0 (wr = w2) ∧ Aside0 ((kq : Int) = x + 2 ∧ x < s0_0.loose.length) ∧ Aside0 (∀ p ∈ s0_0.loose.drop (x + 1).toNat, p.1 ≠ a1))
    case atStart =>
      exact ⟨_, rfl, ⟨rfl⟩, ⟨by have := HL.out; rw [show RowKit.wrap64 ((s0_0.loose.length : Int) - 1) = (s0_0.loose.length : Int) - 1 by unfold RowKit.wrap64; omega]; omega⟩, ⟨by
        have := HL.out
        rw [show RowKit.wrap64 ((s0_0.loose.length : Int) - 1) = (s0_0.loose.length : Int) - 1 by unfold RowKit.wrap64; omega]
        rw [List.drop_of_length_le (by omega)]
        intro p hp
        cases hp⟩⟩
    case round =>
      obtain ⟨x, rfl, HW, HQ, HN⟩ := hrel
      obtain rfl := HW.out
      by_cases hx : 0 ≤ x
      · obtain ⟨m, rfl⟩ := Int.eq_ofNat_of_zero_le hx
        have hm : m < s0_0.loose.length := by have := HQ.out.2; omega
        obtain ⟨gl, vo, hg, hge, hgb, hgl, hown, hok⟩ := HI2.out
        obtain ⟨go, cap, cur, rfl, hgo, hh, hc, hcells⟩ := disk_loose hown hok (by omega)
        have hcell : wr.cell? ⟨g, 1, none⟩ = some (.slice (some ⟨go, 0, none⟩) s0_0.loose.length cap) := (blk_cell hg 1).trans rfl
        have q0 : (0 : Int) ≤ (m : Int) := by omega
        have q1 : (m : Int) < (s0_0.loose.length : Int) := by omega
        have d0 : decide ((m : Int) ≥ 0) = true := decide_eq_true q0
        have hc0 : wr.cell? ⟨go, m * 65, none⟩ = some (.int .i64 (s0_0.loose[m]).1) := by
          rw [show m * 65 = m * 65 + 0 from rfl]
          simpa [World.cell?, hh] using hcells m hm 0 _ rfl
        have HP := Aside0.mk (show (s0_0.loose[m]).2.length = 64 from (hok.loose _ (List.getElem_mem hm)).2.2)
        have HH := Aside0.mk hh
        have HC := Aside0.mk (fun j v => hcells m hm j v)
        have HM2 := Aside0.mk hm
        have HE := Aside0.mk (show s0_0.loose.drop m = s0_0.loose[m] :: s0_0.loose.drop (m + 1) from List.drop_eq_getElem_cons hm)
        have HPE := Aside0.mk (show s0_0.loose[m]? = some s0_0.loose[m] from List.getElem?_eq_getElem hm)
        generalize s0_0.loose[m] = p at hc0 HP HC HE HPE
        clear hx hm hg hge hgb hgl hown hok hgo hh hc hcells
        cases gk with
        | zero => exact absurd HQ.out.1 (by omega)
        | succ k1 =>
        by_cases he : p.1 = a1
        · have d1 : (p.1 == a1) = true := beq_iff_eq.2 he
          have HX := Aside0.mk (clone_64 HP.out (disk_loose_row (off := m * 65) HP.out HH.out HC.out))
          have HRD := Aside0.mk (show Disk.read s0_0 a1 = p.2 by
            have hm := HM2.out
            have he2 : s0_0.loose[m] = p := by have := HPE.out; rw [List.getElem?_eq_getElem hm] at this; exact Option.some.inj this
            unfold Disk.read
            rw [Disk.latest_at hm (he2 ▸ he) (by have := HN.out; rwa [show ((m : Int) + 1).toNat = m + 1 by omega] at this), he2]
            rfl)
          clear he
          go_wp2_with (go_at_call 37; refine HX.out.mono ?_; rintro e w3 ⟨v3, rfl, ho3, hb3⟩; have HO3 := Aside0.mk ho3; have HB3 := Aside0.mk hb3; clear ho3 hb3)
          go_ret2
          exact ⟨_, rfl, by rw [HRD.out]; exact Kd.R_lower HO3.out HK2.out.size, HI2.out.below HB3.out, below_weaken HBB.out HBB.out.size HB3.out, HK2.out.below_trans HB3.out⟩
        · have d1 : (p.1 == a1) = false := beq_eq_false_iff_ne.2 he
          have HN2 := Aside0.mk (show ∀ q ∈ s0_0.loose.drop m, q.1 ≠ a1 by
            rw [HE.out]
            intro q hq
            rcases List.mem_cons.1 hq with rfl | hq
            · exact he
            · have := HN.out
              rw [show ((m : Int) + 1).toNat = m + 1 by omega] at this
              exact this q hq)
          clear he
          go_wp2
          go_roundg k1
          case measure => omega
          case rel => exact ⟨(m : Int) - 1, by rw [show RowKit.wrap64 ((m : Int) - 1) = (m : Int) - 1 by have := HL.out; have := HM2.out; unfold RowKit.wrap64; omega], ⟨rfl⟩, ⟨by have := HQ.out; omega⟩, ⟨by rw [show ((m : Int) - 1 + 1).toNat = m by omega]; exact HN2.out⟩⟩
      · have d0 : decide (x ≥ 0) = false := decide_eq_false (by omega)
        have HRD := Aside0.mk (show Disk.read s0_0 a1 = Disk.sector s0_0.lasts a1 by
          unfold Disk.read
          rw [Disk.latest_none (by have := HN.out; rw [show (x + 1).toNat = 0 by omega] at this; exact this)]
          rfl)
        clear hx
        go_wp2
        go_ret2
        exact ⟨_, rfl, by rw [HRD.out]; exact HO2.out, HI2.out, HBB.out, HK2.out⟩


-- NOT PRINTED: function 60 (utf8_RuneCountInString)

-- NOT PRINTED: function 57 (utf8_RuneCount)

-- NOT PRINTED: function 58 (bytealg_Count)

/-! ### bytes_Equal: function 53 -/
def bytes_Equal.f (l0 : List Int) (l1 : List Int) : Option (Bool) := some ((strOfNums l0).toList == (strOfNums l1).toList)
set_option maxHeartbeats 8000000 in
set_option maxRecDepth 100000 in
theorem bytes_Equal.calls (A0 : Option Addr) (c0 : Nat) (l0 : List Int) (A1 : Option Addr) (c1 : Nat) (l1 : List Int) (r : Bool) (w : World) (hr0 : Kd.C (Kd.int .u8) w A0 l0.length l0) (hc0 : l0.length ≤ c0) (hr1 : Kd.C (Kd.int .u8) w A1 l1.length l1) (hc1 : l1.length ≤ c1) (h : bytes_Equal.f l0 l1 = some r) :
    Calls Try.prog 53 #[.slice A0 l0.length c0, .slice A1 l1.length c1] w fun e w' => e = .returned (.bool r) ∧ Drawn0 w w' := by
  have HR0 := Aside0.mk hr0
  have HC0 := Aside0.mk hc0
  clear hr0 hc0
  have HR1 := Aside0.mk hr1
  have HC1 := Aside0.mk hc1
  clear hr1 hc1
  have H : (some ((strOfNums l0).toList == (strOfNums l1).toList)) = some r := h
  clear h
  obtain rfl := Option.some.inj H
  have hcv3 := Kd.C_string (P := Try.prog) (A := A0) (c := c0) Try.underlying22 Try.underlying5 Try.underlying9 HR0.out
  have hcv4 := Kd.C_string (P := Try.prog) (A := A1) (c := c1) Try.underlying22 Try.underlying5 Try.underlying9 HR1.out
  go_enter Try.func53, Try.ntmps53
  go_wp2
  go_ret
  exact ⟨by first | rfl | (simp; done) | (simp [*]; done), by repeat (first | exact Drawn0.refl _ | apply Drawn0.step)⟩

-- NOT PRINTED: function 65 (bytealg_IndexByte)

-- NOT PRINTED: function 61 (bytes_IndexByte)

-- NOT PRINTED: function 62 (bytealg_Index)

/-! ### bytealg_Cutover: function 63 -/
-- FN rounds=0 making=1
def bytealg_Cutover.f : Nat := 0


/-! ### bytealg_hashStr_byte: function 66 -/
-- FN rounds=0 making=1
def bytealg_hashStr_byte.f : Nat := 0


/-! ### bytealg_IndexRabinKarp_byte: function 64 -/
-- FN rounds=0 making=1
def bytealg_IndexRabinKarp_byte.f : Nat := 0


-- NOT PRINTED: function 59 (bytes_Index)

-- NOT PRINTED: function 54 (bytes_Count)

/-! ### region_zero: function 41 -/
-- FN rounds=0 making=1
-- IMPORT Derived.Lib.Bytealg
-- IMPORT Derived.Lib.BytesEntry
-- IMPORT Derived.Laws.Externs
def region_zero.f (l0 : List Int) : Option Bool := some (l0.all (fun x => (x.toNat.toUInt8 == 0)))
theorem count_run (A : Option Addr) (c : Nat) (l : List Int) (w : World) (h : 0 < l.length → ∃ ad, A = some ad ∧ ∀ j, j < l.length → w.cell? (ad.add j) = some (.int .u8 (l.getD j 0))) :
    (Extern.BytealgCount.count #[.slice A l.length c, .int .u8 0]).run Try.prog w = .ok (.int .i64 (Lib.countByte (Lib.bytesOf l) 0)) w := by
  have hb : (Extern.Bytes.bytesOf (.slice A l.length c)).run Try.prog w = .ok ⟨(Lib.bytesOf l).toArray⟩ w := by
    cases A with
    | none =>
      obtain rfl : l = [] := by
        by_cases h0 : 0 < l.length
        · obtain ⟨ad, he, _⟩ := h h0
          cases he
        · exact List.eq_nil_of_length_eq_zero (by omega)
      rfl
    | some ad =>
      have hl := Lib.run_loadBytesX (P := Try.prog) w l ad .empty (fun j x hj => by
        have hjl : j < l.length := (List.getElem?_eq_some_iff.1 hj).1
        obtain ⟨ad2, he, hc⟩ := h (by omega)
        injection he with he
        subst he
        rw [hc j hjl, List.getD_eq_getElem?_getD, hj]
        rfl)
      refine Eq.trans hl ?_
      congr 1
      apply ByteArray.ext
      simp
  have hs := Lib.run_countString (P := Try.prog) ⟨(Lib.bytesOf l).toArray⟩ 0 w
  change Sem.run Try.prog (Extern.Bytes.bytesOf (.string ⟨(Lib.bytesOf l).toArray⟩) >>= fun b => _) w = _ at hs
  change Sem.run Try.prog (Extern.Bytes.bytesOf (.slice A l.length c) >>= fun b => _) w = _
  rw [Sem.run_bind, hb]
  exact hs
theorem bytes_Count_one (A : Option Addr) (c b2 d : Nat) (l : List Int) (w : World) (hr : Kd.C (Kd.int .u8) w A l.length l) (hc2 : w.cell? ⟨b2, 0, none⟩ = some (.int .u8 0)) :
    Calls Try.prog 54 #[.slice A l.length c, .slice (some ⟨b2, 0, none⟩) 1 d] w fun e w' => e = .returned (.int .i64 (Lib.countByte (Lib.bytesOf l) 0)) ∧ w = w' := by
  obtain ⟨_, _, hcells⟩ := Kd.reads_of_C (d := (0 : Int)) hr
  have hx := count_run A c l w hcells
  have HX := Aside0.mk hx
  clear hx hcells hr
  go_enter Try.func54, Try.ntmps54
  go_wp2
  rw [run_callFunc_extern Try.func58 (by kernel_rfl) (by kernel_rfl) (by kernel_rfl) (e := Extern.BytealgCount.count) (by kernel_rfl), HX.out]
  simp only [Result.andThen]
  rw [Oper.upon_value]
  go_wp2
  go_ret
  exact ⟨rfl, rfl⟩
theorem count_all (l : List Int) : (Lib.countByte (Lib.bytesOf l) 0 = l.length) ↔ (l.all (fun x => (x.toNat.toUInt8 == 0))) = true := by
  unfold Lib.countByte Lib.bytesOf
  rw [show l.length = (l.map (fun n => n.toNat.toUInt8)).length by simp, List.count_eq_length]
  simp only [List.mem_map, List.all_eq_true, beq_iff_eq]
  constructor
  · intro h x hx
    exact (h _ ⟨x, hx, rfl⟩).symm
  · rintro h _ ⟨x, hx, rfl⟩
    exact (h x hx).symm
theorem region_zero.calls (A0 : Option Addr) (c0 : Nat) (l0 : List Int) (r : Bool) (w : World) (hr0 : Kd.C (Kd.int .u8) w A0 l0.length l0) (hc0 : l0.length ≤ c0) (h : region_zero.f l0 = some r) :
    Calls Try.prog 41 #[.slice A0 l0.length c0] w fun e w' => e = .returned (.bool r) ∧ Below w.heap.size w w' := by
  have h := Option.some.inj h
  have HR := Aside0.mk hr0
  have HE := Aside0.mk (show (((Lib.countByte (Lib.bytesOf l0) 0 : Nat) : Int) == (l0.length : Int)) = r by
    rw [← h]
    have hc := count_all l0
    by_cases hh : Lib.countByte (Lib.bytesOf l0) 0 = l0.length
    · rw [hc.1 hh, hh, beq_self_eq_true]
    · have h2 : (l0.all (fun x => (x.toNat.toUInt8 == 0))) = false := Bool.eq_false_iff.2 (fun e => hh (hc.2 e))
      rw [h2]
      exact beq_eq_false_iff_ne.2 (fun e => hh (by omega)))
  clear hr0 h
  go_enter Try.func41, Try.ntmps41
  go_wp2_with (go_at_call 54; refine (bytes_Count_one _ _ _ _ _ _ (Kd.C_alloc HR.out _) (by simp)).mono ?_; rintro e w' ⟨rfl, rfl⟩)
  go_ret
  exact ⟨by rw [← HE.out]; first | done | rfl, below_alloc (Below.refl _ _) _⟩


/-! ### region_Get: function 52 -/
-- FN rounds=0 making=0
-- IMPORT Derived.Test.YtjaibpphlbddoaaHelp
open Go.Proofs.Ytjaibpphlbddoaa.Help
def getS : List Int → Int → Int
  | [], v => v
  | b :: l, v => getS l (Go.bits .or .u32 ((v * 256) % 4294967296) (b % 4294967296))
def region_Get.f (l0 : List Int) : Option Int := some (getS (l0.take 4) 0)
set_option maxHeartbeats 2000000 in
set_option maxRecDepth 100000 in
theorem region_Get.calls (A0 : Option Addr) (c0 : Nat) (l0 : List Int) (r : Int) (w : World) (hr0 : Kd.C (Kd.int .u8) w A0 l0.length l0) (hc0 : l0.length ≤ c0) (h : region_Get.f l0 = some r) :
    Calls Try.prog 52 #[.slice A0 l0.length c0] w fun e w' => e = .returned (.int .u32 r) ∧ Drawn0 w w' := by
  obtain ⟨i0, hi0, _⟩ := info_parts info5
  have HM := Aside0.mk (Kd.C_max hr0)
  have HR := Aside0.mk hr0
  have HG := Aside0.mk (show getS (l0.take 4) 0 = r from Option.some.inj h)
  clear hr0 h
  obtain ⟨m, hm, hm4, hml, hmt, hcut⟩ : ∃ m : Nat, (m : Int) = (if 4 < (l0.length : Int) then 4 else (l0.length : Int)) ∧ m ≤ 4 ∧ m ≤ l0.length ∧ l0.take 4 = l0.take m ∧
      ∀ W : World, (Instr.slice 22 (.slice A0 l0.length c0) none (some (.int .i64 (m : Int))) none).run Try.prog W = .ok (.slice A0 m c0) W := by
    by_cases h4 : 4 < (l0.length : Int)
    · refine ⟨4, by rw [if_pos h4]; rfl, by omega, by omega, rfl, ?_⟩
      have := cut_to 22 5 .i64 (P := Try.prog) Try.underlying22 hi0 A0 l0.length c0 (4 : Int) (by omega) (by omega) hc0
      exact this
    · refine ⟨l0.length, by rw [if_neg h4], by omega, by omega, ?_, ?_⟩
      · rw [List.take_of_length_le (by omega), List.take_of_length_le (by omega)]
      · have := cut_to 22 5 .i64 (P := Try.prog) Try.underlying22 hi0 A0 l0.length c0 (l0.length : Int) (by omega) (by omega) hc0
        rw [Int.toNat_natCast] at this
        exact this
  have HC := Aside0.mk hc0
  have HM4 := Aside0.mk hm4
  have HML := Aside0.mk hml
  rw [hmt] at HG
  have HLEN := Aside0.mk (show (l0.take m).length = m by rw [List.length_take]; omega)
  have hmin : (if 4 < (l0.length : Int) then (4 : Int) else (l0.length : Int)) = (m : Int) := hm.symm
  clear hc0 hm4 hml hmt hm
  go_enter Try.func52, Try.ntmps52
  go_wp2_with fail
  go_loopg [3, 12] (m + 1) (fun kq v3 v12 wr => ∃ (v x : Int), v3 = .int .u32 v ∧ v12 = .int .i64 x ∧ Aside0 (0 ≤ x ∧ x + kq = m + 1 ∧ getS ((l0.take m).drop x.toNat) v = r) ∧ Drawn0 w wr)
  case atStart => exact ⟨0, 0, rfl, rfl, ⟨by simp, by simp, HG.out⟩, Drawn0.refl _⟩
  case round =>
    clear HG
    obtain ⟨v, x, rfl, rfl, HF, ⟨nd, rfl⟩⟩ := hrel
    by_cases hlt : x < (m : Int)
    · have q1 := hlt
      have p1 := HF.out.1
      have c4b0 : decide (x < (m : Int)) = true := decide_eq_true hlt
      have HL := Aside0.mk hlt
      have ql : x < (l0.length : Int) := by have := HML.out; omega
      obtain ⟨ad, e, h0⟩ := Kd.at_int (Kd.C_drewN HR.out nd) x p1 ql
      cases e
      have HD := Aside0.mk (show (l0.take m).drop x.toNat = rd l0 x :: (l0.take m).drop (x + 1).toNat by
        rw [drop_rd _ x p1 (by rw [HLEN.out]; exact q1), rd_take l0 m x p1 q1])
      have HF2 := Aside0.mk (show getS ((l0.take m).drop (x + 1).toNat) (Go.bits .or .u32 ((v * 256) % 4294967296) ((rd l0 x) % 4294967296)) = r by
        rw [← HF.out.2.2, HD.out]; rfl)
      clear hlt ql hcut hmin
      replace p1 := eq_true p1
      replace q1 := eq_true q1
      cases gk with
      | zero => exact absurd HF.out.2.1 (by have := HL.out; omega)
      | succ k1 =>
        go_wp2
        go_roundg k1
        case measure => omega
        case rel =>
          refine ⟨_, x + 1, rfl, (by have hw : wrap64 (x + 1) = x + 1 := (by have := HM4.out; have := HL.out; have := HF.out.1; unfold wrap64; omega); first | rfl | (simp [hw]; done)), ⟨by have := HF.out.1; omega, by have := HF.out.2.1; omega, HF2.out⟩, ⟨nd, rfl⟩⟩
    · have c4b0 : decide (x < (m : Int)) = false := decide_eq_false hlt
      have HE := Aside0.mk (show v = r by
        rw [← HF.out.2.2, List.drop_of_length_le (by rw [HLEN.out]; omega)]; rfl)
      clear hlt hcut hmin
      go_wp2
      go_ret
      exact ⟨by rw [← HE.out]; rfl, ⟨nd, rfl⟩⟩


end Go.Proofs.Ytjaibpphlbddoaa.PRegionClean
