-- Lean text by a program of this repo (wip/tools/printx.py), out of Lean's own print of the translation
import Derived.Test.YtpojfebecmjloaaPWalSupersx0
import Derived.Test.YtpojfebecmjloaaPWalSupersx1
import Derived.Test.YtpojfebecmjloaaPWalSupersx2
import Derived.Test.YtpojfebecmjloaaPWalSupersx3
namespace Go.Proofs.Ytpojfebecmjloaa.PWalSupers
open Go.RowKit Go.Proofs.YtpojfebecmjloaaW.PrintWords Go.Proofs.YtpojfebecmjloaaW.PrintLast Go.Proofs.YtpojfebecmjloaaW.PrintMore
attribute [local go_sem] max2_int min2_int max_two min_two max_three min_three max_four min_four   -- for this text's walks alone
set_option linter.unusedVariables false
set_option linter.unusedSimpArgs false

/-! ### region_Lay: function 26 -/
mutual
def region_Lay.j0 : Nat → Int → Int → Int → List Int → Bool → Disk.DiskM → Option (Int × Int × Disk.DiskM)
  | 0, _, _, _, _, _, _ => none
  | k + 1, x1, x2, x3, x4, x33, x1000 => if x33 = true then (some (0, 1, x1000)) else ((region_Size.f (x4.length : Int)).bind fun t166 => ((sector_Disk_Len.f x1000).bind fun bt167 => (if t166 > (wrap64 ((mn x2 bt167.1) - x1)) then (some (0, 3, bt167.2)) else (region_Lay.l0 k x1 x3 x4 t166 1 bt167.2))))
def region_Lay.l0 : Nat → Int → Int → List Int → Int → Int → Disk.DiskM → Option (Int × Int × Disk.DiskM)
  | 0, _, _, _, _, _, _ => none
  | k + 1, x1, x3, x4, x12, x13, x1000 => if x13 < x12 then (if 0 ≤ (wrap64 ((wrap64 (x13 - 1)) * 64)) then (if (wrap64 ((wrap64 (x13 - 1)) * 64)) ≤ (mn (wrap64 (x13 * 64)) (x4.length : Int)) then (if (mn (wrap64 (x13 * 64)) (x4.length : Int)) ≤ (x4.length : Int) then ((sector_Disk_Write.f x1000 (wrap64 (x1 + x13)) ((x4.take ((mn (wrap64 (x13 * 64)) (x4.length : Int)) : Int).toNat).drop ((wrap64 ((wrap64 (x13 - 1)) * 64)) : Int).toNat)).bind fun bt173 => (if bt173.1 = 0 then (region_Lay.l0 k x1 x3 x4 x12 (wrap64 (x13 + 1)) bt173.2) else (some (0, bt173.1, bt173.2)))) else (none)) else (none)) else (none)) else ((sector_Disk_Flush.f x1000).bind fun bt175 => (if bt175.1 = 0 then ((region_first.f k x3 x4).bind fun t177 => ((sector_Disk_Write.f bt175.2 x1 t177).bind fun bt180 => (if bt180.1 = 0 then ((sector_Disk_Flush.f bt180.2).bind fun bt182 => (if bt182.1 = 0 then (some (wrap64 (x1 + x12), 0, bt182.2)) else (some (0, bt182.1, bt182.2)))) else (some (0, bt180.1, bt180.2))))) else (some (0, bt175.1, bt175.2))))
end
def region_Lay.f (k : Nat) (s0_0 : Disk.DiskM) (a1 : Int) (a2 : Int) (a3 : Int) (l4 : List Int) : Option (Int × Int × Disk.DiskM) := if (l4.length : Int) > 8192 then (region_Lay.j0 k a1 a2 a3 l4 true s0_0) else (if a3 < 0 then (region_Lay.j0 k a1 a2 a3 l4 true s0_0) else (if a3 > 2147483647 then (region_Lay.j0 k a1 a2 a3 l4 true s0_0) else (region_Lay.j0 k a1 a2 a3 l4 (decide (a1 < 0)) s0_0)))
theorem region_Lay.mono_l : ∀ k, (∀ y0 y1 y2 y3 y4 y5, LeO (region_Lay.j0 k y0 y1 y2 y3 y4 y5) (region_Lay.j0 (k + 1) y0 y1 y2 y3 y4 y5)) ∧ (∀ y0 y1 y2 y3 y4 y5, LeO (region_Lay.l0 k y0 y1 y2 y3 y4 y5) (region_Lay.l0 (k + 1) y0 y1 y2 y3 y4 y5))
  | 0 => ⟨fun _ _ _ _ _ _ r h => by simp [region_Lay.j0] at h, fun _ _ _ _ _ _ r h => by simp [region_Lay.l0] at h⟩
  | k + 1 => by
    obtain ⟨ih0, ih1⟩ := region_Lay.mono_l k
    refine ⟨?_, ?_⟩
    · intro y0 y1 y2 y3 y4 y5
      unfold region_Lay.j0
      repeat' first
      | (with_reducible exact ih0 _ _ _ _ _ _)
      | (with_reducible exact ih1 _ _ _ _ _ _)
      | (with_reducible exact region_first.mono _ _ _)
      | (with_reducible exact LeO.refl _)
      | (with_reducible exact LeO.none _)
      | (with_reducible refine LeO.ite ?_ ?_)
      | (with_reducible refine LeO.bind ?_ (fun _ => ?_))
      | exact ih0 _ _ _ _ _ _
      | exact ih1 _ _ _ _ _ _
      | exact region_first.mono _ _ _
      | exact LeO.none _
      | refine LeO.ite ?_ ?_
      | refine LeO.bind ?_ (fun _ => ?_)
    · intro y0 y1 y2 y3 y4 y5
      unfold region_Lay.l0
      repeat' first
      | (with_reducible exact ih0 _ _ _ _ _ _)
      | (with_reducible exact ih1 _ _ _ _ _ _)
      | (with_reducible exact region_first.mono _ _ _)
      | (with_reducible exact LeO.refl _)
      | (with_reducible exact LeO.none _)
      | (with_reducible refine LeO.ite ?_ ?_)
      | (with_reducible refine LeO.bind ?_ (fun _ => ?_))
      | exact ih0 _ _ _ _ _ _
      | exact ih1 _ _ _ _ _ _
      | exact region_first.mono _ _ _
      | exact LeO.none _
      | refine LeO.ite ?_ ?_
      | refine LeO.bind ?_ (fun _ => ?_)
theorem region_Lay.mono : ∀ a0 a1 a2 a3 a4 k, LeO (region_Lay.f k a0 a1 a2 a3 a4) (region_Lay.f (k + 1) a0 a1 a2 a3 a4) := by
  intro a0 a1 a2 a3 a4 k
  obtain ⟨ih0, ih1⟩ := region_Lay.mono_l k
  unfold region_Lay.f
  repeat' first
      | (with_reducible exact ih0 _ _ _ _ _ _)
      | (with_reducible exact ih1 _ _ _ _ _ _)
      | (with_reducible exact region_first.mono _ _ _)
      | (with_reducible exact LeO.refl _)
      | (with_reducible exact LeO.none _)
      | (with_reducible refine LeO.ite ?_ ?_)
      | (with_reducible refine LeO.bind ?_ (fun _ => ?_))
      | exact ih0 _ _ _ _ _ _
      | exact ih1 _ _ _ _ _ _
      | exact region_first.mono _ _ _
      | exact LeO.none _
      | refine LeO.ite ?_ ?_
      | refine LeO.bind ?_ (fun _ => ?_)
set_option maxHeartbeats 8000000 in
set_option maxRecDepth 100000 in
theorem region_Lay.calls (k : Nat) (g : Nat) (s0_0 : Disk.DiskM) (a1 : Int) (a2 : Int) (a3 : Int) (A4 : Option Addr) (c4 : Nat) (l4 : List Int) (r1 : Int) (r2 : Int) (r3 : Disk.DiskM) (w0 w : World) (hI : IsS71 w0 w g s0_0) (hB : Below w0.heap.size w0 w) (hr4 : ∀ W_, Go.Proofs.Ytpojfebecmjloaa.Opq.KeepO ts71 w0.heap.size w W_ → Kd.C (Kd.int .u8) W_ A4 l4.length l4) (hc4 : l4.length ≤ c4) (h : region_Lay.f k s0_0 a1 a2 a3 l4 = some (r1, r2, r3)) :
    Calls Try.prog 26 #[.pointer (some ⟨g, 0, none⟩), .int .i64 a1, .int .i64 a2, .int .i64 a3, .slice A4 l4.length c4] w fun e w' => e = .returned (.tuple #[.int .i64 r1, .int .i64 r2]) ∧ IsS71 w0 w' g r3 ∧ Below w0.heap.size w0 w' ∧ Go.Proofs.Ytpojfebecmjloaa.Opq.KeepO ts71 w0.heap.size w w' := by
  have HR4 := Aside0.mk hr4
  have HC4 := Aside0.mk hc4
  clear hr4 hc4
  have HI0 := Aside0.mk hI
  have HK := Aside0.mk (Go.Proofs.Ytpojfebecmjloaa.Opq.KeepO.refl ts71 w0.heap.size w)
  have HL := Aside0.mk hB.size
  clear hI
  have HW0 := Aside0.mk hB.size
  have HB := Aside0.mk hB
  clear hB
  have H : (if (l4.length : Int) > 8192 then (region_Lay.j0 k a1 a2 a3 l4 true s0_0) else (if a3 < 0 then (region_Lay.j0 k a1 a2 a3 l4 true s0_0) else (if a3 > 2147483647 then (region_Lay.j0 k a1 a2 a3 l4 true s0_0) else (region_Lay.j0 k a1 a2 a3 l4 (decide (a1 < 0)) s0_0)))) = some (r1, r2, r3) := h
  clear h
  have HC6 := Aside0.mk H
  clear H
  go_enter Try.func26, Try.ntmps26
  go_upto_region 1 with (fail)
  go_cut [33] (fun v33 wc => ∃ (kq : Nat) (x33_5 : Bool), v33 = .bool x33_5 ∧ Aside0 (region_Lay.j0 kq a1 a2 a3 l4 x33_5 s0_0 = some (r1, r2, r3)) ∧ Aside0 (kq ≤ k) ∧ Aside0 (IsS71 w0 wc g s0_0) ∧ Aside0 (Go.Proofs.Ytpojfebecmjloaa.Opq.KeepO ts71 w0.heap.size w wc) ∧ Aside0 (Below w0.heap.size w0 wc))
  case first =>
    have H := HC6.out
    clear HC6
    by_cases c7 : (l4.length : Int) > 8192
    · rw [if_pos c7] at H
      have c7b0 : decide (8192 < (l4.length : Int)) = true := decide_eq_true c7
      have c7b1 : decide (8192 < l4.length) = true := decide_eq_true (by omega)
      clear c7
      (first | rw [c7b0] | (simp only [i64_w, i32_w]; rw [c7b0]) | skip)
      have H' := Aside0.mk H
      clear H
      go_wp2
      go_meet
      case rel => exact ⟨_, (true), (by first | rfl | (simp; done) | (simp [*]; done)), H', ⟨by first | omega | exact Nat.le_refl _⟩, ⟨by repeat (first | (with_reducible first | exact HI0.out | apply IsS71.alloc | apply IsS71.drewN | apply IsS71.drew) | exact HI0.out)⟩, ⟨by repeat (first | (with_reducible first | exact HK.out | apply Go.Proofs.Ytpojfebecmjloaa.Opq.KeepO.drewN | apply Go.Proofs.Ytpojfebecmjloaa.Opq.KeepO.drew | apply Go.Proofs.Ytpojfebecmjloaa.Opq.KeepO.alloc) | exact HK.out)⟩, ⟨by repeat (first | (with_reducible first | exact HB.out | apply below_alloc | apply pw_below_drewN | apply below_drew1 | refine below_set ?_ (IsS71.ge HI0.out)) | exact HB.out)⟩⟩
    · rw [if_neg c7] at H
      have c7b0 : decide (8192 < (l4.length : Int)) = false := decide_eq_false c7
      have c7b1 : decide (8192 < l4.length) = false := decide_eq_false (by omega)
      clear c7
      (first | rw [c7b0] | (simp only [i64_w, i32_w]; rw [c7b0]) | skip)
      by_cases c8 : a3 < 0
      · rw [if_pos c8] at H
        have c8b0 : decide (a3 < 0) = true := decide_eq_true c8
        clear c8
        have H' := Aside0.mk H
        clear H
        go_wp2
        go_meet
        case rel => exact ⟨_, (true), (by first | rfl | (simp; done) | (simp [*]; done)), H', ⟨by first | omega | exact Nat.le_refl _⟩, ⟨by repeat (first | (with_reducible first | exact HI0.out | apply IsS71.alloc | apply IsS71.drewN | apply IsS71.drew) | exact HI0.out)⟩, ⟨by repeat (first | (with_reducible first | exact HK.out | apply Go.Proofs.Ytpojfebecmjloaa.Opq.KeepO.drewN | apply Go.Proofs.Ytpojfebecmjloaa.Opq.KeepO.drew | apply Go.Proofs.Ytpojfebecmjloaa.Opq.KeepO.alloc) | exact HK.out)⟩, ⟨by repeat (first | (with_reducible first | exact HB.out | apply below_alloc | apply pw_below_drewN | apply below_drew1 | refine below_set ?_ (IsS71.ge HI0.out)) | exact HB.out)⟩⟩
      · rw [if_neg c8] at H
        have c8b0 : decide (a3 < 0) = false := decide_eq_false c8
        clear c8
        by_cases c9 : a3 > 2147483647
        · rw [if_pos c9] at H
          have c9b0 : decide (2147483647 < a3) = true := decide_eq_true c9
          clear c9
          have H' := Aside0.mk H
          clear H
          go_wp2
          go_meet
          case rel => exact ⟨_, (true), (by first | rfl | (simp; done) | (simp [*]; done)), H', ⟨by first | omega | exact Nat.le_refl _⟩, ⟨by repeat (first | (with_reducible first | exact HI0.out | apply IsS71.alloc | apply IsS71.drewN | apply IsS71.drew) | exact HI0.out)⟩, ⟨by repeat (first | (with_reducible first | exact HK.out | apply Go.Proofs.Ytpojfebecmjloaa.Opq.KeepO.drewN | apply Go.Proofs.Ytpojfebecmjloaa.Opq.KeepO.drew | apply Go.Proofs.Ytpojfebecmjloaa.Opq.KeepO.alloc) | exact HK.out)⟩, ⟨by repeat (first | (with_reducible first | exact HB.out | apply below_alloc | apply pw_below_drewN | apply below_drew1 | refine below_set ?_ (IsS71.ge HI0.out)) | exact HB.out)⟩⟩
        · rw [if_neg c9] at H
          have c9b0 : decide (2147483647 < a3) = false := decide_eq_false c9
          clear c9
          have H' := Aside0.mk H
          clear H
          go_wp2
          go_meet
          case rel => exact ⟨_, (decide (a1 < 0)), (by first | rfl | (simp; done) | (simp [*]; done)), H', ⟨by first | omega | exact Nat.le_refl _⟩, ⟨by repeat (first | (with_reducible first | exact HI0.out | apply IsS71.alloc | apply IsS71.drewN | apply IsS71.drew) | exact HI0.out)⟩, ⟨by repeat (first | (with_reducible first | exact HK.out | apply Go.Proofs.Ytpojfebecmjloaa.Opq.KeepO.drewN | apply Go.Proofs.Ytpojfebecmjloaa.Opq.KeepO.drew | apply Go.Proofs.Ytpojfebecmjloaa.Opq.KeepO.alloc) | exact HK.out)⟩, ⟨by repeat (first | (with_reducible first | exact HB.out | apply below_alloc | apply pw_below_drewN | apply below_drew1 | refine below_set ?_ (IsS71.ge HI0.out)) | exact HB.out)⟩⟩
  case rest =>
    clear HC6
    try clear c2
    try clear p2
    try clear c4
    try clear c7
    try clear c7b0
    try clear c7b1
    try clear c8
    try clear c8b0
    try clear c9
    try clear c9b0
    obtain ⟨kq, x33_5, rfl, HA, HJ5, HI0, HK, HB⟩ := hcut
    cases kq with
    | zero => exact absurd HA.out (by simp [region_Lay.j0])
    | succ kj5 =>
      have H := HA.out
      clear HA
      simp only [region_Lay.j0] at H
      by_cases c10 : x33_5 = true
      · subst c10
        have H1 : (some (0, 1, s0_0)) = some (r1, r2, r3) := by rw [if_pos rfl] at H; exact H
        clear H
        have H := H1
        clear H1
        simp only [Option.some.injEq, Prod.mk.injEq] at H
        obtain ⟨rfl, rfl, rfl⟩ := H
        go_wp2
        go_ret2
        exact ⟨by first | rfl | (simp [errW_none, errW_some] <;> rfl) | (simp [*, errW_none, errW_some] <;> rfl), by repeat (first | (with_reducible first | exact HI0.out | apply IsS71.alloc | apply IsS71.drewN | apply IsS71.drew) | exact HI0.out), by repeat (first | (with_reducible first | exact HB.out | apply below_alloc | apply pw_below_drewN | apply below_drew1 | refine below_set ?_ (IsS71.ge HI0.out)) | exact HB.out), by repeat (first | (with_reducible first | exact HK.out | apply Go.Proofs.Ytpojfebecmjloaa.Opq.KeepO.drewN | apply Go.Proofs.Ytpojfebecmjloaa.Opq.KeepO.drew | apply Go.Proofs.Ytpojfebecmjloaa.Opq.KeepO.alloc) | exact HK.out)⟩
      · replace c10 := Bool.eq_false_iff.mpr c10
        subst c10
        have H1 : ((region_Size.f (l4.length : Int)).bind fun t166 => ((sector_Disk_Len.f s0_0).bind fun bt167 => (if t166 > (wrap64 ((mn a2 bt167.1) - a1)) then (some (0, 3, bt167.2)) else (region_Lay.l0 kj5 a1 a3 l4 t166 1 bt167.2)))) = some (r1, r2, r3) := by rw [if_neg (show ¬ (false = true) by decide)] at H; exact H
        clear H
        have H := H1
        clear H1
        replace H := Option.bind_eq_some_iff.mp H
        obtain ⟨t166, A110, H⟩ := H
        replace H : ((sector_Disk_Len.f s0_0).bind fun bt167 => (if t166 > (wrap64 ((mn a2 bt167.1) - a1)) then (some (0, 3, bt167.2)) else (region_Lay.l0 kj5 a1 a3 l4 t166 1 bt167.2))) = some (r1, r2, r3) := H
        have A11 := Aside0.mk A110
        clear A110
        replace H := Option.bind_eq_some_iff.mp H
        obtain ⟨⟨t167, t168⟩, A120, H⟩ := H
        replace H : (if t166 > (wrap64 ((mn a2 t167) - a1)) then (some (0, 3, t168)) else (region_Lay.l0 kj5 a1 a3 l4 t166 1 t168)) = some (r1, r2, r3) := H
        have A12 := Aside0.mk A120
        clear A120
        obtain ⟨ji13, hji13⟩ : ∃ j_ : Int, (mn a2 t167) = j_ := ⟨_, rfl⟩
        replace H : (if t166 > (wrap64 ((ji13) - a1)) then (some (0, 3, t168)) else (region_Lay.l0 kj5 a1 a3 l4 t166 1 t168)) = some (r1, r2, r3) := by first | (rw [hji13] at H; exact H) | (simp only [hji13] at H ⊢; exact H)
        (try rw [hji13] at A11)
        (try rw [hji13] at A12)
        have hji13_ : (if t167 < a2 then t167 else a2) = ji13 := hji13
        by_cases c14 : t166 > (wrap64 ((ji13) - a1))
        · rw [if_pos c14] at H
          have c14b0 : decide ((wrap64 ((ji13) - a1)) < t166) = true := decide_eq_true c14
          clear c14
          simp only [Option.some.injEq, Prod.mk.injEq] at H
          obtain ⟨rfl, rfl, rfl⟩ := H
          go_wp2_with (first | ((with_reducible refine gate_callee (f := 45) rfl ?_); refine goesL_ (some 36) rfl rfl Try.func45 (by kernel_rfl) rfl #[.int .i64 (l4.length : Int)] rfl (by (try simp only [List.map_toArray, List.map_cons, List.map_nil]); first | done | rfl | (simp only [List.length_drop, List.length_take]; rfl)) ?_; (with_reducible refine (region_Size.calls (l4.length : Int) t166 _ A11.out).mono ?_); rintro e w15 ⟨rfl, hb⟩; refine ⟨_, rfl, ?_⟩; have n0_ := Aside0.mk (IsS71.below (by repeat (first | (with_reducible first | exact HI0.out | apply IsS71.alloc | apply IsS71.drewN | apply IsS71.drew) | exact HI0.out)) hb); have n1_ := Aside0.mk (Go.Proofs.Ytpojfebecmjloaa.Opq.KeepO.trans (by repeat (first | (with_reducible first | exact HK.out | apply Go.Proofs.Ytpojfebecmjloaa.Opq.KeepO.drewN | apply Go.Proofs.Ytpojfebecmjloaa.Opq.KeepO.drew | apply Go.Proofs.Ytpojfebecmjloaa.Opq.KeepO.alloc) | exact HK.out)) (Go.Proofs.Ytpojfebecmjloaa.Opq.KeepO.of_below hb)); have n2_ := Aside0.mk (below_step (by repeat (first | (with_reducible first | exact HB.out | apply below_alloc | apply pw_below_drewN | apply below_drew1 | refine below_set ?_ (IsS71.ge HI0.out)) | exact HB.out)) hb); clear HI0; clear HK; clear HB; have HI0 := n0_; have HK := n1_; have HB := n2_; clear n0_ n1_ n2_; (try clear hb); (try clear hb2); (try clear hk); (try clear hi)) | ((with_reducible refine gate_callee (f := 22) rfl ?_); refine goesL_ (some 40) rfl rfl Try.func22 (by kernel_rfl) rfl #[.pointer (some ⟨g, 0, none⟩)] rfl (by (try simp only [List.map_toArray, List.map_cons, List.map_nil]); first | done | rfl | (simp only [List.length_drop, List.length_take]; rfl)) ?_; (with_reducible refine (sector_Disk_Len.calls g s0_0 t167 t168 w0 _ ?side1 ?side2 A12.out).mono ?_); (case side1 => repeat (first | (with_reducible first | exact HI0.out | apply IsS71.alloc | apply IsS71.drewN | apply IsS71.drew) | exact HI0.out)); (case side2 => repeat (first | (with_reducible first | exact HB.out | apply below_alloc | apply pw_below_drewN | apply below_drew1 | refine below_set ?_ (IsS71.ge HI0.out)) | exact HB.out)); rintro e w16 ⟨rfl, hi, hb, hk⟩; refine ⟨_, rfl, ?_⟩; have n0_ := Aside0.mk (Go.Proofs.Ytpojfebecmjloaa.Opq.KeepO.trans (by repeat (first | (with_reducible first | exact HK.out | apply Go.Proofs.Ytpojfebecmjloaa.Opq.KeepO.drewN | apply Go.Proofs.Ytpojfebecmjloaa.Opq.KeepO.drew | apply Go.Proofs.Ytpojfebecmjloaa.Opq.KeepO.alloc) | exact HK.out)) hk); have n1_ := Aside0.mk (hb); have n2_ := Aside0.mk (hi); clear HK; clear HB; clear HI0; have HK := n0_; have HB := n1_; have HI0 := n2_; clear n0_ n1_ n2_; (try clear hb); (try clear hb2); (try clear hk); (try clear hi)))
          go_ret2
          exact ⟨by first | rfl | (simp [errW_none, errW_some] <;> rfl) | (simp only [← hji13]; first | rfl | (simp [errW_none, errW_some] <;> rfl)) | (simp [*, errW_none, errW_some] <;> rfl), by repeat (first | (with_reducible first | exact HI0.out | apply IsS71.alloc | apply IsS71.drewN | apply IsS71.drew) | exact HI0.out), by repeat (first | (with_reducible first | exact HB.out | apply below_alloc | apply pw_below_drewN | apply below_drew1 | refine below_set ?_ (IsS71.ge HI0.out)) | exact HB.out), by repeat (first | (with_reducible first | exact HK.out | apply Go.Proofs.Ytpojfebecmjloaa.Opq.KeepO.drewN | apply Go.Proofs.Ytpojfebecmjloaa.Opq.KeepO.drew | apply Go.Proofs.Ytpojfebecmjloaa.Opq.KeepO.alloc) | exact HK.out)⟩
        · rw [if_neg c14] at H
          have c14b0 : decide ((wrap64 ((ji13) - a1)) < t166) = false := decide_eq_false c14
          clear c14
          have H' := Aside0.mk H
          clear H
          go_wp2_with (first | ((with_reducible refine gate_callee (f := 45) rfl ?_); refine goesL_ (some 36) rfl rfl Try.func45 (by kernel_rfl) rfl #[.int .i64 (l4.length : Int)] rfl (by (try simp only [List.map_toArray, List.map_cons, List.map_nil]); first | done | rfl | (simp only [List.length_drop, List.length_take]; rfl)) ?_; (with_reducible refine (region_Size.calls (l4.length : Int) t166 _ A11.out).mono ?_); rintro e w17 ⟨rfl, hb⟩; refine ⟨_, rfl, ?_⟩; have n0_ := Aside0.mk (IsS71.below (by repeat (first | (with_reducible first | exact HI0.out | apply IsS71.alloc | apply IsS71.drewN | apply IsS71.drew) | exact HI0.out)) hb); have n1_ := Aside0.mk (Go.Proofs.Ytpojfebecmjloaa.Opq.KeepO.trans (by repeat (first | (with_reducible first | exact HK.out | apply Go.Proofs.Ytpojfebecmjloaa.Opq.KeepO.drewN | apply Go.Proofs.Ytpojfebecmjloaa.Opq.KeepO.drew | apply Go.Proofs.Ytpojfebecmjloaa.Opq.KeepO.alloc) | exact HK.out)) (Go.Proofs.Ytpojfebecmjloaa.Opq.KeepO.of_below hb)); have n2_ := Aside0.mk (below_step (by repeat (first | (with_reducible first | exact HB.out | apply below_alloc | apply pw_below_drewN | apply below_drew1 | refine below_set ?_ (IsS71.ge HI0.out)) | exact HB.out)) hb); clear HI0; clear HK; clear HB; have HI0 := n0_; have HK := n1_; have HB := n2_; clear n0_ n1_ n2_; (try clear hb); (try clear hb2); (try clear hk); (try clear hi)) | ((with_reducible refine gate_callee (f := 22) rfl ?_); refine goesL_ (some 40) rfl rfl Try.func22 (by kernel_rfl) rfl #[.pointer (some ⟨g, 0, none⟩)] rfl (by (try simp only [List.map_toArray, List.map_cons, List.map_nil]); first | done | rfl | (simp only [List.length_drop, List.length_take]; rfl)) ?_; (with_reducible refine (sector_Disk_Len.calls g s0_0 t167 t168 w0 _ ?side1 ?side2 A12.out).mono ?_); (case side1 => repeat (first | (with_reducible first | exact HI0.out | apply IsS71.alloc | apply IsS71.drewN | apply IsS71.drew) | exact HI0.out)); (case side2 => repeat (first | (with_reducible first | exact HB.out | apply below_alloc | apply pw_below_drewN | apply below_drew1 | refine below_set ?_ (IsS71.ge HI0.out)) | exact HB.out)); rintro e w18 ⟨rfl, hi, hb, hk⟩; refine ⟨_, rfl, ?_⟩; have n0_ := Aside0.mk (Go.Proofs.Ytpojfebecmjloaa.Opq.KeepO.trans (by repeat (first | (with_reducible first | exact HK.out | apply Go.Proofs.Ytpojfebecmjloaa.Opq.KeepO.drewN | apply Go.Proofs.Ytpojfebecmjloaa.Opq.KeepO.drew | apply Go.Proofs.Ytpojfebecmjloaa.Opq.KeepO.alloc) | exact HK.out)) hk); have n1_ := Aside0.mk (hb); have n2_ := Aside0.mk (hi); clear HK; clear HB; clear HI0; have HK := n0_; have HB := n1_; have HI0 := n2_; clear n0_ n1_ n2_; (try clear hb); (try clear hb2); (try clear hk); (try clear hi)))
          go_loopg [13] kj5 (fun kq v13 w' => ∃ (x13_2 : Int) (x1000_2 : Disk.DiskM), v13 = .int .i64 x13_2 ∧ Aside0 (region_Lay.l0 kq a1 a3 l4 t166 x13_2 x1000_2 = some (r1, r2, r3)) ∧ Aside0 (kq ≤ kj5) ∧ Aside0 (IsS71 w0 w' g x1000_2) ∧ Aside0 (Go.Proofs.Ytpojfebecmjloaa.Opq.KeepO ts71 w0.heap.size w w') ∧ Aside0 (Below w0.heap.size w0 w'))
          case atStart => exact ⟨(1), (t168), (by first | rfl | (simp; done) | (simp [*]; done)), H', ⟨Nat.le_refl _⟩, ⟨by repeat (first | (with_reducible first | exact HI0.out | apply IsS71.alloc | apply IsS71.drewN | apply IsS71.drew) | exact HI0.out)⟩, ⟨by repeat (first | (with_reducible first | exact HK.out | apply Go.Proofs.Ytpojfebecmjloaa.Opq.KeepO.drewN | apply Go.Proofs.Ytpojfebecmjloaa.Opq.KeepO.drew | apply Go.Proofs.Ytpojfebecmjloaa.Opq.KeepO.alloc) | exact HK.out)⟩, ⟨by repeat (first | (with_reducible first | exact HB.out | apply below_alloc | apply pw_below_drewN | apply below_drew1 | refine below_set ?_ (IsS71.ge HI0.out)) | exact HB.out)⟩⟩
          case round =>
            clear H'
            try clear c1
            try clear c2
            try clear p2
            try clear c4
            try clear p6
            try clear c7
            try clear c7b0
            try clear c7b1
            try clear c8
            try clear c8b0
            try clear c9
            try clear c9b0
            try clear c10
            try clear c14
            try clear c14b0
            try clear p2
            obtain ⟨x13_2, x1000_2, rfl, HA, HK2, HI0, HK, HB⟩ := hrel
            cases gk with
            | zero => exact absurd HA.out (by simp [region_Lay.l0])
            | succ k2 =>
              have H := HA.out
              clear HA
              simp only [region_Lay.l0] at H
              by_cases c19 : x13_2 < t166
              · rw [if_pos c19] at H
                have c19b0 : decide (x13_2 < t166) = true := decide_eq_true c19
                clear c19
                obtain ⟨ji20, hji20⟩ : ∃ j_ : Int, (mn (wrap64 (x13_2 * 64)) (l4.length : Int)) = j_ := ⟨_, rfl⟩
                replace H : (if 0 ≤ (wrap64 ((wrap64 (x13_2 - 1)) * 64)) then (if (wrap64 ((wrap64 (x13_2 - 1)) * 64)) ≤ (ji20) then (if (ji20) ≤ (l4.length : Int) then ((sector_Disk_Write.f x1000_2 (wrap64 (a1 + x13_2)) ((l4.take ((ji20) : Int).toNat).drop ((wrap64 ((wrap64 (x13_2 - 1)) * 64)) : Int).toNat)).bind fun bt173 => (if bt173.1 = 0 then (region_Lay.l0 k2 a1 a3 l4 t166 (wrap64 (x13_2 + 1)) bt173.2) else (some (0, bt173.1, bt173.2)))) else (none)) else (none)) else (none)) = some (r1, r2, r3) := by first | (rw [hji20] at H; exact H) | (simp only [hji20] at H ⊢; exact H)
                have hji20_ : (if (l4.length : Int) < (wrap64 (x13_2 * 64)) then (l4.length : Int) else (wrap64 (x13_2 * 64))) = ji20 := hji20
                obtain ⟨ji21, hji21⟩ : ∃ j_ : Int, (wrap64 ((wrap64 (x13_2 - 1)) * 64)) = j_ := ⟨_, rfl⟩
                replace H : (if 0 ≤ (ji21) then (if (ji21) ≤ (ji20) then (if (ji20) ≤ (l4.length : Int) then ((sector_Disk_Write.f x1000_2 (wrap64 (a1 + x13_2)) ((l4.take ((ji20) : Int).toNat).drop ((ji21) : Int).toNat)).bind fun bt173 => (if bt173.1 = 0 then (region_Lay.l0 k2 a1 a3 l4 t166 (wrap64 (x13_2 + 1)) bt173.2) else (some (0, bt173.1, bt173.2)))) else (none)) else (none)) else (none)) = some (r1, r2, r3) := by first | (rw [hji21] at H; exact H) | (simp only [hji21] at H ⊢; exact H)
                have hji21w : (IntKind.i64.wrap ((wrap64 (x13_2 - 1)) * 64)) = ji21 := (i64_w _).trans hji21
                by_cases c22 : 0 ≤ (ji21)
                · rw [if_pos c22] at H
                  have c22b0 := eq_true c22
                  have c22b1 : decide (0 ≤ (ji21)) = true := decide_eq_true c22
                  clear c22
                  by_cases c23 : (ji21) ≤ (ji20)
                  · rw [if_pos c23] at H
                    have c23b0 := eq_true c23
                    have c23b1 : decide ((ji21) ≤ (ji20)) = true := decide_eq_true c23
                    clear c23
                    by_cases c24 : (ji20) ≤ (l4.length : Int)
                    · rw [if_pos c24] at H
                      have c24b0 := eq_true c24
                      have c24b1 : decide ((ji20) ≤ (l4.length : Int)) = true := decide_eq_true c24
                      clear c24
                      obtain ⟨y169, hy169⟩ : ∃ y_ : List Int, y_ = ((l4.take ((ji20) : Int).toNat).drop ((ji21) : Int).toNat) := ⟨_, rfl⟩
                      replace H : ((sector_Disk_Write.f x1000_2 (wrap64 (a1 + x13_2)) y169).bind fun bt173 => (if bt173.1 = 0 then (region_Lay.l0 k2 a1 a3 l4 t166 (wrap64 (x13_2 + 1)) bt173.2) else (some (0, bt173.1, bt173.2)))) = some (r1, r2, r3) := by first | (rw [hy169]; with_reducible exact H) | (have H2_ := (Option.bind_some _ _).symm.trans H; rw [hy169]; with_reducible exact H2_) | (have H2_ := (Option.bind_some _ _).symm.trans H; with_reducible exact H2_) | with_reducible exact H | (rw [hy169]; exact H) | exact H
                      have Ny169 := Aside0.mk hy169
                      clear hy169
                      replace H := Option.bind_eq_some_iff.mp H
                      obtain ⟨⟨t173, t174⟩, A250, H⟩ := H
                      replace H : (if t173 = 0 then (region_Lay.l0 k2 a1 a3 l4 t166 (wrap64 (x13_2 + 1)) t174) else (some (0, t173, t174))) = some (r1, r2, r3) := H
                      have A25 := Aside0.mk A250
                      clear A250
                      by_cases c26 : t173 = 0
                      · rw [if_pos c26] at H
                        have c26b0 : (t173 == 0) = true := beq_iff_eq.mpr c26
                        have c26b1 : (t173 != 0) = false := bne_eq_false_iff_eq.mpr c26
                        clear c26
                        have H' := Aside0.mk H
                        clear H
                        have q27 : ((ji20) : Int) ≤ ((l4.length : Int) : Int) := of_decide_eq_true (by first | (with_reducible assumption) | assumption)
                        obtain ⟨i027, hi027, _, hsz27, _⟩ := info_parts info5
                        have hroom27 : l4.length ≤ c4 := HC4.out
                        have hC27 : Kd.C (Kd.int .u8) _ A4 l4.length l4 := (Go.Proofs.Ytpojfebecmjloaa.Opq.C_now HR4.out (by repeat (first | (with_reducible first | exact HK.out | apply Go.Proofs.Ytpojfebecmjloaa.Opq.KeepO.drewN | apply Go.Proofs.Ytpojfebecmjloaa.Opq.KeepO.drew | apply Go.Proofs.Ytpojfebecmjloaa.Opq.KeepO.alloc) | exact HK.out)))
                        have ql27 : ((ji21) : Int) ≤ ((ji20) : Int) := of_decide_eq_true (by first | (with_reducible assumption) | assumption)
                        have q027 : (0 : Int) ≤ ((ji21) : Int) := of_decide_eq_true (by first | (with_reducible assumption) | assumption)
                        have hcut27 := cut_mid (P := Try.prog) 22 5 .i64 .i64 Try.underlying22 hi027 1 hsz27 A4 l4.length c4 (ji21) (ji20) q027 ql27 q27 hroom27
                        have hr27 := Kd.C_mid (lo := ((ji21) : Int).toNat) (hi := ((ji20) : Int).toNat) (c := c4) hC27 (by omega) (by omega) hroom27
                        obtain ⟨A27, hA27⟩ : ∃ A1, A1 = (if c4 = ((ji21) : Int).toNat then A4 else (A4 : Option Addr).map (·.add (((ji21) : Int).toNat * 1))) := ⟨_, rfl⟩
                        obtain ⟨c27, hc27⟩ : ∃ c1, c1 = c4 - ((ji21) : Int).toNat := ⟨_, rfl⟩
                        have HF27 := Aside0.mk (show ∀ W_, Go.Proofs.Ytpojfebecmjloaa.Opq.KeepO ts71 w0.heap.size w W_ → Kd.C (Kd.int .u8) W_ A27 y169.length y169 from fun W_ hk_ => by have hr_ := Kd.C_mid (lo := ((ji21) : Int).toNat) (hi := ((ji20) : Int).toNat) (c := c4) (HR4.out W_ hk_) (by omega) (by omega) hroom27; rw [show ((l4).take ((ji20) : Int).toNat).drop ((ji21) : Int).toNat = y169 from Ny169.out.symm] at hr_; rw [hA27]; exact hr_)
                        have hy27 : y169.length = ((ji20) : Int).toNat - ((ji21) : Int).toNat := (by rw [Ny169.out, List.length_drop, List.length_take] <;> omega)
                        rw [show ((l4).take ((ji20) : Int).toNat).drop ((ji21) : Int).toNat = y169 from Ny169.out.symm] at hr27
                        replace hr27 : Kd.C (Kd.int .u8) _ A27 y169.length y169 := (by rw [hA27]; exact hr27)
                        rw [← hy27, ← hA27, ← hc27] at hcut27
                        have HR172 := Aside0.mk hr27
                        have HC172 := Aside0.mk (show y169.length ≤ c27 from by rw [hy27, hc27]; exact Nat.sub_le_sub_right (Nat.le_trans (by omega) hroom27) _)
                        clear hr27 hC27 hroom27 hi027 hsz27 hc27
                        have KY27 := Aside0.mk hy27
                        have KA27 := Aside0.mk hA27
                        clear hy27 hA27
                        have KL27 := Aside0.mk (show ((ji20) : Int).toNat ≤ l4.length from by omega)
                        have KM27 := Aside0.mk (show ((ji21) : Int).toNat ≤ ((ji20) : Int).toNat from by omega)
                        replace q27 := eq_true q27
                        go_wp2_with (first | ((with_reducible refine gate_callee (f := 14) rfl ?_); refine goesL_ (some 65) rfl rfl Try.func14 (by kernel_rfl) rfl #[.pointer (some ⟨g, 0, none⟩), .int .i64 (wrap64 (a1 + x13_2)), .slice A27 y169.length c27] rfl (by (try simp only [List.map_toArray, List.map_cons, List.map_nil]); first | done | rfl | (simp only [List.length_drop, List.length_take]; rfl)) ?_; (with_reducible refine (sector_Disk_Write.calls g x1000_2 (wrap64 (a1 + x13_2)) _ _ y169 t173 t174 w0 _ ?side1 ?side2 ?side3 ?side4 A25.out).mono ?_); (case side1 => repeat (first | (with_reducible first | exact HI0.out | apply IsS71.alloc | apply IsS71.drewN | apply IsS71.drew) | exact HI0.out)); (case side2 => repeat (first | (with_reducible first | exact HB.out | apply below_alloc | apply pw_below_drewN | apply below_drew1 | refine below_set ?_ (IsS71.ge HI0.out)) | exact HB.out)); (case side3 => exact Go.Proofs.Ytpojfebecmjloaa.Opq.C_step HF27.out (by repeat (first | (with_reducible first | exact HK.out | apply Go.Proofs.Ytpojfebecmjloaa.Opq.KeepO.drewN | apply Go.Proofs.Ytpojfebecmjloaa.Opq.KeepO.drew | apply Go.Proofs.Ytpojfebecmjloaa.Opq.KeepO.alloc) | exact HK.out))); (case side4 => exact HC172.out); rintro e w28 ⟨rfl, hi, hb, hk⟩; refine ⟨_, rfl, ?_⟩; have n0_ := Aside0.mk (Go.Proofs.Ytpojfebecmjloaa.Opq.KeepO.trans (by repeat (first | (with_reducible first | exact HK.out | apply Go.Proofs.Ytpojfebecmjloaa.Opq.KeepO.drewN | apply Go.Proofs.Ytpojfebecmjloaa.Opq.KeepO.drew | apply Go.Proofs.Ytpojfebecmjloaa.Opq.KeepO.alloc) | exact HK.out)) hk); have n1_ := Aside0.mk (hb); have n2_ := Aside0.mk (hi); clear HK; clear HB; clear HI0; have HK := n0_; have HB := n1_; have HI0 := n2_; clear n0_ n1_ n2_; (try clear hb); (try clear hb2); (try clear hk); (try clear hi)))
                        go_roundg k2
                        case measure => have := HJ5.out; have := HK2.out; omega
                        case rel => exact ⟨(wrap64 (x13_2 + 1)), (t174), (by first | rfl | (simp; done) | (simp [*]; done)), H', ⟨by have := HJ5.out; have := HK2.out; omega⟩, ⟨by repeat (first | (with_reducible first | exact HI0.out | apply IsS71.alloc | apply IsS71.drewN | apply IsS71.drew) | exact HI0.out)⟩, ⟨by repeat (first | (with_reducible first | exact HK.out | apply Go.Proofs.Ytpojfebecmjloaa.Opq.KeepO.drewN | apply Go.Proofs.Ytpojfebecmjloaa.Opq.KeepO.drew | apply Go.Proofs.Ytpojfebecmjloaa.Opq.KeepO.alloc) | exact HK.out)⟩, ⟨by repeat (first | (with_reducible first | exact HB.out | apply below_alloc | apply pw_below_drewN | apply below_drew1 | refine below_set ?_ (IsS71.ge HI0.out)) | exact HB.out)⟩⟩
                      · rw [if_neg c26] at H
                        have c26b0 : (t173 == 0) = false := beq_eq_false_iff_ne.mpr c26
                        have c26b1 : (t173 != 0) = true := bne_iff_ne.mpr c26
                        simp only [Option.some.injEq, Prod.mk.injEq] at H
                        obtain ⟨rfl, rfl, rfl⟩ := H
                        have q29 : ((ji20) : Int) ≤ ((l4.length : Int) : Int) := of_decide_eq_true (by first | (with_reducible assumption) | assumption)
                        obtain ⟨i029, hi029, _, hsz29, _⟩ := info_parts info5
                        have hroom29 : l4.length ≤ c4 := HC4.out
                        have hC29 : Kd.C (Kd.int .u8) _ A4 l4.length l4 := (Go.Proofs.Ytpojfebecmjloaa.Opq.C_now HR4.out (by repeat (first | (with_reducible first | exact HK.out | apply Go.Proofs.Ytpojfebecmjloaa.Opq.KeepO.drewN | apply Go.Proofs.Ytpojfebecmjloaa.Opq.KeepO.drew | apply Go.Proofs.Ytpojfebecmjloaa.Opq.KeepO.alloc) | exact HK.out)))
                        have ql29 : ((ji21) : Int) ≤ ((ji20) : Int) := of_decide_eq_true (by first | (with_reducible assumption) | assumption)
                        have q029 : (0 : Int) ≤ ((ji21) : Int) := of_decide_eq_true (by first | (with_reducible assumption) | assumption)
                        have hcut29 := cut_mid (P := Try.prog) 22 5 .i64 .i64 Try.underlying22 hi029 1 hsz29 A4 l4.length c4 (ji21) (ji20) q029 ql29 q29 hroom29
                        have hr29 := Kd.C_mid (lo := ((ji21) : Int).toNat) (hi := ((ji20) : Int).toNat) (c := c4) hC29 (by omega) (by omega) hroom29
                        obtain ⟨A29, hA29⟩ : ∃ A1, A1 = (if c4 = ((ji21) : Int).toNat then A4 else (A4 : Option Addr).map (·.add (((ji21) : Int).toNat * 1))) := ⟨_, rfl⟩
                        obtain ⟨c29, hc29⟩ : ∃ c1, c1 = c4 - ((ji21) : Int).toNat := ⟨_, rfl⟩
                        have HF29 := Aside0.mk (show ∀ W_, Go.Proofs.Ytpojfebecmjloaa.Opq.KeepO ts71 w0.heap.size w W_ → Kd.C (Kd.int .u8) W_ A29 y169.length y169 from fun W_ hk_ => by have hr_ := Kd.C_mid (lo := ((ji21) : Int).toNat) (hi := ((ji20) : Int).toNat) (c := c4) (HR4.out W_ hk_) (by omega) (by omega) hroom29; rw [show ((l4).take ((ji20) : Int).toNat).drop ((ji21) : Int).toNat = y169 from Ny169.out.symm] at hr_; rw [hA29]; exact hr_)
                        have hy29 : y169.length = ((ji20) : Int).toNat - ((ji21) : Int).toNat := (by rw [Ny169.out, List.length_drop, List.length_take] <;> omega)
                        rw [show ((l4).take ((ji20) : Int).toNat).drop ((ji21) : Int).toNat = y169 from Ny169.out.symm] at hr29
                        replace hr29 : Kd.C (Kd.int .u8) _ A29 y169.length y169 := (by rw [hA29]; exact hr29)
                        rw [← hy29, ← hA29, ← hc29] at hcut29
                        have HR172 := Aside0.mk hr29
                        have HC172 := Aside0.mk (show y169.length ≤ c29 from by rw [hy29, hc29]; exact Nat.sub_le_sub_right (Nat.le_trans (by omega) hroom29) _)
                        clear hr29 hC29 hroom29 hi029 hsz29 hc29
                        have KY29 := Aside0.mk hy29
                        have KA29 := Aside0.mk hA29
                        clear hy29 hA29
                        have KL29 := Aside0.mk (show ((ji20) : Int).toNat ≤ l4.length from by omega)
                        have KM29 := Aside0.mk (show ((ji21) : Int).toNat ≤ ((ji20) : Int).toNat from by omega)
                        replace q29 := eq_true q29
                        go_wp2_with (first | ((with_reducible refine gate_callee (f := 14) rfl ?_); refine goesL_ (some 65) rfl rfl Try.func14 (by kernel_rfl) rfl #[.pointer (some ⟨g, 0, none⟩), .int .i64 (wrap64 (a1 + x13_2)), .slice A29 y169.length c29] rfl (by (try simp only [List.map_toArray, List.map_cons, List.map_nil]); first | done | rfl | (simp only [List.length_drop, List.length_take]; rfl)) ?_; (with_reducible refine (sector_Disk_Write.calls g x1000_2 (wrap64 (a1 + x13_2)) _ _ y169 t173 t174 w0 _ ?side1 ?side2 ?side3 ?side4 A25.out).mono ?_); (case side1 => repeat (first | (with_reducible first | exact HI0.out | apply IsS71.alloc | apply IsS71.drewN | apply IsS71.drew) | exact HI0.out)); (case side2 => repeat (first | (with_reducible first | exact HB.out | apply below_alloc | apply pw_below_drewN | apply below_drew1 | refine below_set ?_ (IsS71.ge HI0.out)) | exact HB.out)); (case side3 => exact Go.Proofs.Ytpojfebecmjloaa.Opq.C_step HF29.out (by repeat (first | (with_reducible first | exact HK.out | apply Go.Proofs.Ytpojfebecmjloaa.Opq.KeepO.drewN | apply Go.Proofs.Ytpojfebecmjloaa.Opq.KeepO.drew | apply Go.Proofs.Ytpojfebecmjloaa.Opq.KeepO.alloc) | exact HK.out))); (case side4 => exact HC172.out); rintro e w30 ⟨rfl, hi, hb, hk⟩; refine ⟨_, rfl, ?_⟩; have n0_ := Aside0.mk (Go.Proofs.Ytpojfebecmjloaa.Opq.KeepO.trans (by repeat (first | (with_reducible first | exact HK.out | apply Go.Proofs.Ytpojfebecmjloaa.Opq.KeepO.drewN | apply Go.Proofs.Ytpojfebecmjloaa.Opq.KeepO.drew | apply Go.Proofs.Ytpojfebecmjloaa.Opq.KeepO.alloc) | exact HK.out)) hk); have n1_ := Aside0.mk (hb); have n2_ := Aside0.mk (hi); clear HK; clear HB; clear HI0; have HK := n0_; have HB := n1_; have HI0 := n2_; clear n0_ n1_ n2_; (try clear hb); (try clear hb2); (try clear hk); (try clear hi)))
                        go_ret2
                        exact ⟨by first | rfl | (simp [errW_none, errW_some] <;> rfl) | (simp only [← hji13, ← hji20, ← hji21]; first | rfl | (simp [errW_none, errW_some] <;> rfl)) | (simp [*, errW_none, errW_some] <;> rfl), by repeat (first | (with_reducible first | exact HI0.out | apply IsS71.alloc | apply IsS71.drewN | apply IsS71.drew) | exact HI0.out), by repeat (first | (with_reducible first | exact HB.out | apply below_alloc | apply pw_below_drewN | apply below_drew1 | refine below_set ?_ (IsS71.ge HI0.out)) | exact HB.out), by repeat (first | (with_reducible first | exact HK.out | apply Go.Proofs.Ytpojfebecmjloaa.Opq.KeepO.drewN | apply Go.Proofs.Ytpojfebecmjloaa.Opq.KeepO.drew | apply Go.Proofs.Ytpojfebecmjloaa.Opq.KeepO.alloc) | exact HK.out)⟩
                    · rw [if_neg c24] at H
                      exact absurd H (by simp)
                  · rw [if_neg c23] at H
                    exact absurd H (by simp)
                · rw [if_neg c22] at H
                  exact absurd H (by simp)
              · rw [if_neg c19] at H
                have c19b0 : decide (x13_2 < t166) = false := decide_eq_false c19
                clear c19
                replace H := Option.bind_eq_some_iff.mp H
                obtain ⟨⟨t175, t176⟩, A310, H⟩ := H
                replace H : (if t175 = 0 then ((region_first.f k2 a3 l4).bind fun t177 => ((sector_Disk_Write.f t176 a1 t177).bind fun bt180 => (if bt180.1 = 0 then ((sector_Disk_Flush.f bt180.2).bind fun bt182 => (if bt182.1 = 0 then (some (wrap64 (a1 + t166), 0, bt182.2)) else (some (0, bt182.1, bt182.2)))) else (some (0, bt180.1, bt180.2))))) else (some (0, t175, t176))) = some (r1, r2, r3) := H
                have A31 := Aside0.mk A310
                clear A310
                by_cases c32 : t175 = 0
                · rw [if_pos c32] at H
                  have c32b0 : (t175 == 0) = true := beq_iff_eq.mpr c32
                  have c32b1 : (t175 != 0) = false := bne_eq_false_iff_eq.mpr c32
                  clear c32
                  replace H := Option.bind_eq_some_iff.mp H
                  obtain ⟨t177, A330, H⟩ := H
                  replace H : ((sector_Disk_Write.f t176 a1 t177).bind fun bt180 => (if bt180.1 = 0 then ((sector_Disk_Flush.f bt180.2).bind fun bt182 => (if bt182.1 = 0 then (some (wrap64 (a1 + t166), 0, bt182.2)) else (some (0, bt182.1, bt182.2)))) else (some (0, bt180.1, bt180.2)))) = some (r1, r2, r3) := H
                  have A33 := Aside0.mk A330
                  clear A330
                  replace H := Option.bind_eq_some_iff.mp H
                  obtain ⟨⟨t180, t181⟩, A340, H⟩ := H
                  replace H : (if t180 = 0 then ((sector_Disk_Flush.f t181).bind fun bt182 => (if bt182.1 = 0 then (some (wrap64 (a1 + t166), 0, bt182.2)) else (some (0, bt182.1, bt182.2)))) else (some (0, t180, t181))) = some (r1, r2, r3) := H
                  have A34 := Aside0.mk A340
                  clear A340
                  by_cases c35 : t180 = 0
                  · rw [if_pos c35] at H
                    have c35b0 : (t180 == 0) = true := beq_iff_eq.mpr c35
                    have c35b1 : (t180 != 0) = false := bne_eq_false_iff_eq.mpr c35
                    clear c35
                    replace H := Option.bind_eq_some_iff.mp H
                    obtain ⟨⟨t182, t183⟩, A360, H⟩ := H
                    replace H : (if t182 = 0 then (some (wrap64 (a1 + t166), 0, t183)) else (some (0, t182, t183))) = some (r1, r2, r3) := H
                    have A36 := Aside0.mk A360
                    clear A360
                    by_cases c37 : t182 = 0
                    · rw [if_pos c37] at H
                      have c37b0 : (t182 == 0) = true := beq_iff_eq.mpr c37
                      have c37b1 : (t182 != 0) = false := bne_eq_false_iff_eq.mpr c37
                      clear c37
                      simp only [Option.some.injEq, Prod.mk.injEq] at H
                      obtain ⟨rfl, rfl, rfl⟩ := H
                      go_wp2_with (first | ((with_reducible refine gate_callee (f := 21) rfl ?_); refine goesL_ (some 70) rfl rfl Try.func21 (by kernel_rfl) rfl #[.pointer (some ⟨g, 0, none⟩)] rfl (by (try simp only [List.map_toArray, List.map_cons, List.map_nil]); first | done | rfl | (simp only [List.length_drop, List.length_take]; rfl)) ?_; (with_reducible refine (sector_Disk_Flush.calls g x1000_2 t175 t176 w0 _ ?side1 ?side2 A31.out).mono ?_); (case side1 => repeat (first | (with_reducible first | exact HI0.out | apply IsS71.alloc | apply IsS71.drewN | apply IsS71.drew) | exact HI0.out)); (case side2 => repeat (first | (with_reducible first | exact HB.out | apply below_alloc | apply pw_below_drewN | apply below_drew1 | refine below_set ?_ (IsS71.ge HI0.out)) | exact HB.out)); rintro e w38 ⟨rfl, hi, hb, hk⟩; refine ⟨_, rfl, ?_⟩; have n0_ := Aside0.mk (Go.Proofs.Ytpojfebecmjloaa.Opq.KeepO.trans (by repeat (first | (with_reducible first | exact HK.out | apply Go.Proofs.Ytpojfebecmjloaa.Opq.KeepO.drewN | apply Go.Proofs.Ytpojfebecmjloaa.Opq.KeepO.drew | apply Go.Proofs.Ytpojfebecmjloaa.Opq.KeepO.alloc) | exact HK.out)) hk); have n1_ := Aside0.mk (hb); have n2_ := Aside0.mk (hi); clear HK; clear HB; clear HI0; have HK := n0_; have HB := n1_; have HI0 := n2_; clear n0_ n1_ n2_; (try clear hb); (try clear hb2); (try clear hk); (try clear hi)) | ((with_reducible refine gate_callee (f := 47) rfl ?_); refine goesL_ (some 78) rfl rfl Try.func47 (by kernel_rfl) rfl #[.int .i64 a3, .slice A4 l4.length c4] rfl (by (try simp only [List.map_toArray, List.map_cons, List.map_nil]); first | done | rfl | (simp only [List.length_drop, List.length_take]; rfl)) ?_; (with_reducible refine (region_first.calls k2 a3 _ _ l4 t177 _ ?side1 ?side2 A33.out).mono ?_); (case side1 => exact Go.Proofs.Ytpojfebecmjloaa.Opq.C_now HR4.out (by repeat (first | (with_reducible first | exact HK.out | apply Go.Proofs.Ytpojfebecmjloaa.Opq.KeepO.drewN | apply Go.Proofs.Ytpojfebecmjloaa.Opq.KeepO.drew | apply Go.Proofs.Ytpojfebecmjloaa.Opq.KeepO.alloc) | exact HK.out))); (case side2 => exact HC4.out); rintro e w39 ⟨v178, rfl, ho0, hb⟩; refine ⟨_, rfl, ?_⟩; have n0_ := Aside0.mk (Kd.R_lower ho0 (Go.Proofs.Ytpojfebecmjloaa.Opq.KeepO.size (by repeat (first | (with_reducible first | exact HK.out | apply Go.Proofs.Ytpojfebecmjloaa.Opq.KeepO.drewN | apply Go.Proofs.Ytpojfebecmjloaa.Opq.KeepO.drew | apply Go.Proofs.Ytpojfebecmjloaa.Opq.KeepO.alloc) | exact HK.out)))); have n1_ := Aside0.mk (IsS71.below (by repeat (first | (with_reducible first | exact HI0.out | apply IsS71.alloc | apply IsS71.drewN | apply IsS71.drew) | exact HI0.out)) hb); have n2_ := Aside0.mk (Go.Proofs.Ytpojfebecmjloaa.Opq.KeepO.trans (by repeat (first | (with_reducible first | exact HK.out | apply Go.Proofs.Ytpojfebecmjloaa.Opq.KeepO.drewN | apply Go.Proofs.Ytpojfebecmjloaa.Opq.KeepO.drew | apply Go.Proofs.Ytpojfebecmjloaa.Opq.KeepO.alloc) | exact HK.out)) (Go.Proofs.Ytpojfebecmjloaa.Opq.KeepO.of_below hb)); have n3_ := Aside0.mk (below_step (by repeat (first | (with_reducible first | exact HB.out | apply below_alloc | apply pw_below_drewN | apply below_drew1 | refine below_set ?_ (IsS71.ge HI0.out)) | exact HB.out)) hb); clear HI0; clear HK; clear HB; have HO179 := n0_; have HI0 := n1_; have HK := n2_; have HB := n3_; clear n0_ n1_ n2_ n3_; (try clear hb); (try clear hb2); (try clear hk); (try clear hi); (try clear ho0); obtain ⟨Ao40, co40, eo40⟩ := Kd.R_slice HO179.out; subst eo40) | ((with_reducible refine gate_callee (f := 14) rfl ?_); refine goesL_ (some 79) rfl rfl Try.func14 (by kernel_rfl) rfl #[.pointer (some ⟨g, 0, none⟩), .int .i64 a1, .slice Ao40 t177.length co40] rfl (by (try simp only [List.map_toArray, List.map_cons, List.map_nil]); first | done | rfl | (simp only [List.length_drop, List.length_take]; rfl)) ?_; (with_reducible refine (sector_Disk_Write.calls g t176 a1 _ _ t177 t180 t181 w0 _ ?side1 ?side2 ?side3 ?side4 A34.out).mono ?_); (case side1 => repeat (first | (with_reducible first | exact HI0.out | apply IsS71.alloc | apply IsS71.drewN | apply IsS71.drew) | exact HI0.out)); (case side2 => repeat (first | (with_reducible first | exact HB.out | apply below_alloc | apply pw_below_drewN | apply below_drew1 | refine below_set ?_ (IsS71.ge HI0.out)) | exact HB.out)); (case side3 => exact Go.Proofs.Ytpojfebecmjloaa.Opq.C_ownR (by (with_reducible repeat (first | apply Kd.R_alloc | apply Kd.R_drewN | apply Kd.R_drew)); exact HO179.out) (by decide)); (case side4 => exact (Kd.R_reads' HO179.out).2.1); rintro e w41 ⟨rfl, hi, hb, hk⟩; refine ⟨_, rfl, ?_⟩; have n0_ := Aside0.mk (Go.Proofs.Ytpojfebecmjloaa.Opq.R_keep (by (with_reducible repeat (first | apply Kd.R_alloc | apply Kd.R_drewN | apply Kd.R_drew)); exact HO179.out) hk (by decide)); have n1_ := Aside0.mk (Go.Proofs.Ytpojfebecmjloaa.Opq.KeepO.trans (by repeat (first | (with_reducible first | exact HK.out | apply Go.Proofs.Ytpojfebecmjloaa.Opq.KeepO.drewN | apply Go.Proofs.Ytpojfebecmjloaa.Opq.KeepO.drew | apply Go.Proofs.Ytpojfebecmjloaa.Opq.KeepO.alloc) | exact HK.out)) hk); have n2_ := Aside0.mk (hb); have n3_ := Aside0.mk (hi); clear HO179; clear HK; clear HB; clear HI0; have HO179 := n0_; have HK := n1_; have HB := n2_; have HI0 := n3_; clear n0_ n1_ n2_ n3_; (try clear hb); (try clear hb2); (try clear hk); (try clear hi)) | ((with_reducible refine gate_callee (f := 21) rfl ?_); refine goesL_ (some 84) rfl rfl Try.func21 (by kernel_rfl) rfl #[.pointer (some ⟨g, 0, none⟩)] rfl (by (try simp only [List.map_toArray, List.map_cons, List.map_nil]); first | done | rfl | (simp only [List.length_drop, List.length_take]; rfl)) ?_; (with_reducible refine (sector_Disk_Flush.calls g t181 t182 t183 w0 _ ?side1 ?side2 A36.out).mono ?_); (case side1 => repeat (first | (with_reducible first | exact HI0.out | apply IsS71.alloc | apply IsS71.drewN | apply IsS71.drew) | exact HI0.out)); (case side2 => repeat (first | (with_reducible first | exact HB.out | apply below_alloc | apply pw_below_drewN | apply below_drew1 | refine below_set ?_ (IsS71.ge HI0.out)) | exact HB.out)); rintro e w42 ⟨rfl, hi, hb, hk⟩; refine ⟨_, rfl, ?_⟩; have n0_ := Aside0.mk (Go.Proofs.Ytpojfebecmjloaa.Opq.R_keep (by (with_reducible repeat (first | apply Kd.R_alloc | apply Kd.R_drewN | apply Kd.R_drew)); exact HO179.out) hk (by decide)); have n1_ := Aside0.mk (Go.Proofs.Ytpojfebecmjloaa.Opq.KeepO.trans (by repeat (first | (with_reducible first | exact HK.out | apply Go.Proofs.Ytpojfebecmjloaa.Opq.KeepO.drewN | apply Go.Proofs.Ytpojfebecmjloaa.Opq.KeepO.drew | apply Go.Proofs.Ytpojfebecmjloaa.Opq.KeepO.alloc) | exact HK.out)) hk); have n2_ := Aside0.mk (hb); have n3_ := Aside0.mk (hi); clear HO179; clear HK; clear HB; clear HI0; have HO179 := n0_; have HK := n1_; have HB := n2_; have HI0 := n3_; clear n0_ n1_ n2_ n3_; (try clear hb); (try clear hb2); (try clear hk); (try clear hi)))
                      go_ret2
                      exact ⟨by first | rfl | (simp [errW_none, errW_some] <;> rfl) | (simp only [← hji13]; first | rfl | (simp [errW_none, errW_some] <;> rfl)) | (simp [*, errW_none, errW_some] <;> rfl), by repeat (first | (with_reducible first | exact HI0.out | apply IsS71.alloc | apply IsS71.drewN | apply IsS71.drew) | exact HI0.out), by repeat (first | (with_reducible first | exact HB.out | apply below_alloc | apply pw_below_drewN | apply below_drew1 | refine below_set ?_ (IsS71.ge HI0.out)) | exact HB.out), by repeat (first | (with_reducible first | exact HK.out | apply Go.Proofs.Ytpojfebecmjloaa.Opq.KeepO.drewN | apply Go.Proofs.Ytpojfebecmjloaa.Opq.KeepO.drew | apply Go.Proofs.Ytpojfebecmjloaa.Opq.KeepO.alloc) | exact HK.out)⟩
                    · rw [if_neg c37] at H
                      have c37b0 : (t182 == 0) = false := beq_eq_false_iff_ne.mpr c37
                      have c37b1 : (t182 != 0) = true := bne_iff_ne.mpr c37
                      simp only [Option.some.injEq, Prod.mk.injEq] at H
                      obtain ⟨rfl, rfl, rfl⟩ := H
                      go_wp2_with (first | ((with_reducible refine gate_callee (f := 21) rfl ?_); refine goesL_ (some 70) rfl rfl Try.func21 (by kernel_rfl) rfl #[.pointer (some ⟨g, 0, none⟩)] rfl (by (try simp only [List.map_toArray, List.map_cons, List.map_nil]); first | done | rfl | (simp only [List.length_drop, List.length_take]; rfl)) ?_; (with_reducible refine (sector_Disk_Flush.calls g x1000_2 t175 t176 w0 _ ?side1 ?side2 A31.out).mono ?_); (case side1 => repeat (first | (with_reducible first | exact HI0.out | apply IsS71.alloc | apply IsS71.drewN | apply IsS71.drew) | exact HI0.out)); (case side2 => repeat (first | (with_reducible first | exact HB.out | apply below_alloc | apply pw_below_drewN | apply below_drew1 | refine below_set ?_ (IsS71.ge HI0.out)) | exact HB.out)); rintro e w43 ⟨rfl, hi, hb, hk⟩; refine ⟨_, rfl, ?_⟩; have n0_ := Aside0.mk (Go.Proofs.Ytpojfebecmjloaa.Opq.KeepO.trans (by repeat (first | (with_reducible first | exact HK.out | apply Go.Proofs.Ytpojfebecmjloaa.Opq.KeepO.drewN | apply Go.Proofs.Ytpojfebecmjloaa.Opq.KeepO.drew | apply Go.Proofs.Ytpojfebecmjloaa.Opq.KeepO.alloc) | exact HK.out)) hk); have n1_ := Aside0.mk (hb); have n2_ := Aside0.mk (hi); clear HK; clear HB; clear HI0; have HK := n0_; have HB := n1_; have HI0 := n2_; clear n0_ n1_ n2_; (try clear hb); (try clear hb2); (try clear hk); (try clear hi)) | ((with_reducible refine gate_callee (f := 47) rfl ?_); refine goesL_ (some 78) rfl rfl Try.func47 (by kernel_rfl) rfl #[.int .i64 a3, .slice A4 l4.length c4] rfl (by (try simp only [List.map_toArray, List.map_cons, List.map_nil]); first | done | rfl | (simp only [List.length_drop, List.length_take]; rfl)) ?_; (with_reducible refine (region_first.calls k2 a3 _ _ l4 t177 _ ?side1 ?side2 A33.out).mono ?_); (case side1 => exact Go.Proofs.Ytpojfebecmjloaa.Opq.C_now HR4.out (by repeat (first | (with_reducible first | exact HK.out | apply Go.Proofs.Ytpojfebecmjloaa.Opq.KeepO.drewN | apply Go.Proofs.Ytpojfebecmjloaa.Opq.KeepO.drew | apply Go.Proofs.Ytpojfebecmjloaa.Opq.KeepO.alloc) | exact HK.out))); (case side2 => exact HC4.out); rintro e w44 ⟨v178, rfl, ho0, hb⟩; refine ⟨_, rfl, ?_⟩; have n0_ := Aside0.mk (Kd.R_lower ho0 (Go.Proofs.Ytpojfebecmjloaa.Opq.KeepO.size (by repeat (first | (with_reducible first | exact HK.out | apply Go.Proofs.Ytpojfebecmjloaa.Opq.KeepO.drewN | apply Go.Proofs.Ytpojfebecmjloaa.Opq.KeepO.drew | apply Go.Proofs.Ytpojfebecmjloaa.Opq.KeepO.alloc) | exact HK.out)))); have n1_ := Aside0.mk (IsS71.below (by repeat (first | (with_reducible first | exact HI0.out | apply IsS71.alloc | apply IsS71.drewN | apply IsS71.drew) | exact HI0.out)) hb); have n2_ := Aside0.mk (Go.Proofs.Ytpojfebecmjloaa.Opq.KeepO.trans (by repeat (first | (with_reducible first | exact HK.out | apply Go.Proofs.Ytpojfebecmjloaa.Opq.KeepO.drewN | apply Go.Proofs.Ytpojfebecmjloaa.Opq.KeepO.drew | apply Go.Proofs.Ytpojfebecmjloaa.Opq.KeepO.alloc) | exact HK.out)) (Go.Proofs.Ytpojfebecmjloaa.Opq.KeepO.of_below hb)); have n3_ := Aside0.mk (below_step (by repeat (first | (with_reducible first | exact HB.out | apply below_alloc | apply pw_below_drewN | apply below_drew1 | refine below_set ?_ (IsS71.ge HI0.out)) | exact HB.out)) hb); clear HI0; clear HK; clear HB; have HO179 := n0_; have HI0 := n1_; have HK := n2_; have HB := n3_; clear n0_ n1_ n2_ n3_; (try clear hb); (try clear hb2); (try clear hk); (try clear hi); (try clear ho0); obtain ⟨Ao45, co45, eo45⟩ := Kd.R_slice HO179.out; subst eo45) | ((with_reducible refine gate_callee (f := 14) rfl ?_); refine goesL_ (some 79) rfl rfl Try.func14 (by kernel_rfl) rfl #[.pointer (some ⟨g, 0, none⟩), .int .i64 a1, .slice Ao45 t177.length co45] rfl (by (try simp only [List.map_toArray, List.map_cons, List.map_nil]); first | done | rfl | (simp only [List.length_drop, List.length_take]; rfl)) ?_; (with_reducible refine (sector_Disk_Write.calls g t176 a1 _ _ t177 t180 t181 w0 _ ?side1 ?side2 ?side3 ?side4 A34.out).mono ?_); (case side1 => repeat (first | (with_reducible first | exact HI0.out | apply IsS71.alloc | apply IsS71.drewN | apply IsS71.drew) | exact HI0.out)); (case side2 => repeat (first | (with_reducible first | exact HB.out | apply below_alloc | apply pw_below_drewN | apply below_drew1 | refine below_set ?_ (IsS71.ge HI0.out)) | exact HB.out)); (case side3 => exact Go.Proofs.Ytpojfebecmjloaa.Opq.C_ownR (by (with_reducible repeat (first | apply Kd.R_alloc | apply Kd.R_drewN | apply Kd.R_drew)); exact HO179.out) (by decide)); (case side4 => exact (Kd.R_reads' HO179.out).2.1); rintro e w46 ⟨rfl, hi, hb, hk⟩; refine ⟨_, rfl, ?_⟩; have n0_ := Aside0.mk (Go.Proofs.Ytpojfebecmjloaa.Opq.R_keep (by (with_reducible repeat (first | apply Kd.R_alloc | apply Kd.R_drewN | apply Kd.R_drew)); exact HO179.out) hk (by decide)); have n1_ := Aside0.mk (Go.Proofs.Ytpojfebecmjloaa.Opq.KeepO.trans (by repeat (first | (with_reducible first | exact HK.out | apply Go.Proofs.Ytpojfebecmjloaa.Opq.KeepO.drewN | apply Go.Proofs.Ytpojfebecmjloaa.Opq.KeepO.drew | apply Go.Proofs.Ytpojfebecmjloaa.Opq.KeepO.alloc) | exact HK.out)) hk); have n2_ := Aside0.mk (hb); have n3_ := Aside0.mk (hi); clear HO179; clear HK; clear HB; clear HI0; have HO179 := n0_; have HK := n1_; have HB := n2_; have HI0 := n3_; clear n0_ n1_ n2_ n3_; (try clear hb); (try clear hb2); (try clear hk); (try clear hi)) | ((with_reducible refine gate_callee (f := 21) rfl ?_); refine goesL_ (some 84) rfl rfl Try.func21 (by kernel_rfl) rfl #[.pointer (some ⟨g, 0, none⟩)] rfl (by (try simp only [List.map_toArray, List.map_cons, List.map_nil]); first | done | rfl | (simp only [List.length_drop, List.length_take]; rfl)) ?_; (with_reducible refine (sector_Disk_Flush.calls g t181 t182 t183 w0 _ ?side1 ?side2 A36.out).mono ?_); (case side1 => repeat (first | (with_reducible first | exact HI0.out | apply IsS71.alloc | apply IsS71.drewN | apply IsS71.drew) | exact HI0.out)); (case side2 => repeat (first | (with_reducible first | exact HB.out | apply below_alloc | apply pw_below_drewN | apply below_drew1 | refine below_set ?_ (IsS71.ge HI0.out)) | exact HB.out)); rintro e w47 ⟨rfl, hi, hb, hk⟩; refine ⟨_, rfl, ?_⟩; have n0_ := Aside0.mk (Go.Proofs.Ytpojfebecmjloaa.Opq.R_keep (by (with_reducible repeat (first | apply Kd.R_alloc | apply Kd.R_drewN | apply Kd.R_drew)); exact HO179.out) hk (by decide)); have n1_ := Aside0.mk (Go.Proofs.Ytpojfebecmjloaa.Opq.KeepO.trans (by repeat (first | (with_reducible first | exact HK.out | apply Go.Proofs.Ytpojfebecmjloaa.Opq.KeepO.drewN | apply Go.Proofs.Ytpojfebecmjloaa.Opq.KeepO.drew | apply Go.Proofs.Ytpojfebecmjloaa.Opq.KeepO.alloc) | exact HK.out)) hk); have n2_ := Aside0.mk (hb); have n3_ := Aside0.mk (hi); clear HO179; clear HK; clear HB; clear HI0; have HO179 := n0_; have HK := n1_; have HB := n2_; have HI0 := n3_; clear n0_ n1_ n2_ n3_; (try clear hb); (try clear hb2); (try clear hk); (try clear hi)))
                      go_ret2
                      exact ⟨by first | rfl | (simp [errW_none, errW_some] <;> rfl) | (simp only [← hji13]; first | rfl | (simp [errW_none, errW_some] <;> rfl)) | (simp [*, errW_none, errW_some] <;> rfl), by repeat (first | (with_reducible first | exact HI0.out | apply IsS71.alloc | apply IsS71.drewN | apply IsS71.drew) | exact HI0.out), by repeat (first | (with_reducible first | exact HB.out | apply below_alloc | apply pw_below_drewN | apply below_drew1 | refine below_set ?_ (IsS71.ge HI0.out)) | exact HB.out), by repeat (first | (with_reducible first | exact HK.out | apply Go.Proofs.Ytpojfebecmjloaa.Opq.KeepO.drewN | apply Go.Proofs.Ytpojfebecmjloaa.Opq.KeepO.drew | apply Go.Proofs.Ytpojfebecmjloaa.Opq.KeepO.alloc) | exact HK.out)⟩
                  · rw [if_neg c35] at H
                    have c35b0 : (t180 == 0) = false := beq_eq_false_iff_ne.mpr c35
                    have c35b1 : (t180 != 0) = true := bne_iff_ne.mpr c35
                    simp only [Option.some.injEq, Prod.mk.injEq] at H
                    obtain ⟨rfl, rfl, rfl⟩ := H
                    go_wp2_with (first | ((with_reducible refine gate_callee (f := 21) rfl ?_); refine goesL_ (some 70) rfl rfl Try.func21 (by kernel_rfl) rfl #[.pointer (some ⟨g, 0, none⟩)] rfl (by (try simp only [List.map_toArray, List.map_cons, List.map_nil]); first | done | rfl | (simp only [List.length_drop, List.length_take]; rfl)) ?_; (with_reducible refine (sector_Disk_Flush.calls g x1000_2 t175 t176 w0 _ ?side1 ?side2 A31.out).mono ?_); (case side1 => repeat (first | (with_reducible first | exact HI0.out | apply IsS71.alloc | apply IsS71.drewN | apply IsS71.drew) | exact HI0.out)); (case side2 => repeat (first | (with_reducible first | exact HB.out | apply below_alloc | apply pw_below_drewN | apply below_drew1 | refine below_set ?_ (IsS71.ge HI0.out)) | exact HB.out)); rintro e w48 ⟨rfl, hi, hb, hk⟩; refine ⟨_, rfl, ?_⟩; have n0_ := Aside0.mk (Go.Proofs.Ytpojfebecmjloaa.Opq.KeepO.trans (by repeat (first | (with_reducible first | exact HK.out | apply Go.Proofs.Ytpojfebecmjloaa.Opq.KeepO.drewN | apply Go.Proofs.Ytpojfebecmjloaa.Opq.KeepO.drew | apply Go.Proofs.Ytpojfebecmjloaa.Opq.KeepO.alloc) | exact HK.out)) hk); have n1_ := Aside0.mk (hb); have n2_ := Aside0.mk (hi); clear HK; clear HB; clear HI0; have HK := n0_; have HB := n1_; have HI0 := n2_; clear n0_ n1_ n2_; (try clear hb); (try clear hb2); (try clear hk); (try clear hi)) | ((with_reducible refine gate_callee (f := 47) rfl ?_); refine goesL_ (some 78) rfl rfl Try.func47 (by kernel_rfl) rfl #[.int .i64 a3, .slice A4 l4.length c4] rfl (by (try simp only [List.map_toArray, List.map_cons, List.map_nil]); first | done | rfl | (simp only [List.length_drop, List.length_take]; rfl)) ?_; (with_reducible refine (region_first.calls k2 a3 _ _ l4 t177 _ ?side1 ?side2 A33.out).mono ?_); (case side1 => exact Go.Proofs.Ytpojfebecmjloaa.Opq.C_now HR4.out (by repeat (first | (with_reducible first | exact HK.out | apply Go.Proofs.Ytpojfebecmjloaa.Opq.KeepO.drewN | apply Go.Proofs.Ytpojfebecmjloaa.Opq.KeepO.drew | apply Go.Proofs.Ytpojfebecmjloaa.Opq.KeepO.alloc) | exact HK.out))); (case side2 => exact HC4.out); rintro e w49 ⟨v178, rfl, ho0, hb⟩; refine ⟨_, rfl, ?_⟩; have n0_ := Aside0.mk (Kd.R_lower ho0 (Go.Proofs.Ytpojfebecmjloaa.Opq.KeepO.size (by repeat (first | (with_reducible first | exact HK.out | apply Go.Proofs.Ytpojfebecmjloaa.Opq.KeepO.drewN | apply Go.Proofs.Ytpojfebecmjloaa.Opq.KeepO.drew | apply Go.Proofs.Ytpojfebecmjloaa.Opq.KeepO.alloc) | exact HK.out)))); have n1_ := Aside0.mk (IsS71.below (by repeat (first | (with_reducible first | exact HI0.out | apply IsS71.alloc | apply IsS71.drewN | apply IsS71.drew) | exact HI0.out)) hb); have n2_ := Aside0.mk (Go.Proofs.Ytpojfebecmjloaa.Opq.KeepO.trans (by repeat (first | (with_reducible first | exact HK.out | apply Go.Proofs.Ytpojfebecmjloaa.Opq.KeepO.drewN | apply Go.Proofs.Ytpojfebecmjloaa.Opq.KeepO.drew | apply Go.Proofs.Ytpojfebecmjloaa.Opq.KeepO.alloc) | exact HK.out)) (Go.Proofs.Ytpojfebecmjloaa.Opq.KeepO.of_below hb)); have n3_ := Aside0.mk (below_step (by repeat (first | (with_reducible first | exact HB.out | apply below_alloc | apply pw_below_drewN | apply below_drew1 | refine below_set ?_ (IsS71.ge HI0.out)) | exact HB.out)) hb); clear HI0; clear HK; clear HB; have HO179 := n0_; have HI0 := n1_; have HK := n2_; have HB := n3_; clear n0_ n1_ n2_ n3_; (try clear hb); (try clear hb2); (try clear hk); (try clear hi); (try clear ho0); obtain ⟨Ao50, co50, eo50⟩ := Kd.R_slice HO179.out; subst eo50) | ((with_reducible refine gate_callee (f := 14) rfl ?_); refine goesL_ (some 79) rfl rfl Try.func14 (by kernel_rfl) rfl #[.pointer (some ⟨g, 0, none⟩), .int .i64 a1, .slice Ao50 t177.length co50] rfl (by (try simp only [List.map_toArray, List.map_cons, List.map_nil]); first | done | rfl | (simp only [List.length_drop, List.length_take]; rfl)) ?_; (with_reducible refine (sector_Disk_Write.calls g t176 a1 _ _ t177 t180 t181 w0 _ ?side1 ?side2 ?side3 ?side4 A34.out).mono ?_); (case side1 => repeat (first | (with_reducible first | exact HI0.out | apply IsS71.alloc | apply IsS71.drewN | apply IsS71.drew) | exact HI0.out)); (case side2 => repeat (first | (with_reducible first | exact HB.out | apply below_alloc | apply pw_below_drewN | apply below_drew1 | refine below_set ?_ (IsS71.ge HI0.out)) | exact HB.out)); (case side3 => exact Go.Proofs.Ytpojfebecmjloaa.Opq.C_ownR (by (with_reducible repeat (first | apply Kd.R_alloc | apply Kd.R_drewN | apply Kd.R_drew)); exact HO179.out) (by decide)); (case side4 => exact (Kd.R_reads' HO179.out).2.1); rintro e w51 ⟨rfl, hi, hb, hk⟩; refine ⟨_, rfl, ?_⟩; have n0_ := Aside0.mk (Go.Proofs.Ytpojfebecmjloaa.Opq.R_keep (by (with_reducible repeat (first | apply Kd.R_alloc | apply Kd.R_drewN | apply Kd.R_drew)); exact HO179.out) hk (by decide)); have n1_ := Aside0.mk (Go.Proofs.Ytpojfebecmjloaa.Opq.KeepO.trans (by repeat (first | (with_reducible first | exact HK.out | apply Go.Proofs.Ytpojfebecmjloaa.Opq.KeepO.drewN | apply Go.Proofs.Ytpojfebecmjloaa.Opq.KeepO.drew | apply Go.Proofs.Ytpojfebecmjloaa.Opq.KeepO.alloc) | exact HK.out)) hk); have n2_ := Aside0.mk (hb); have n3_ := Aside0.mk (hi); clear HO179; clear HK; clear HB; clear HI0; have HO179 := n0_; have HK := n1_; have HB := n2_; have HI0 := n3_; clear n0_ n1_ n2_ n3_; (try clear hb); (try clear hb2); (try clear hk); (try clear hi)))
                    go_ret2
                    exact ⟨by first | rfl | (simp [errW_none, errW_some] <;> rfl) | (simp only [← hji13]; first | rfl | (simp [errW_none, errW_some] <;> rfl)) | (simp [*, errW_none, errW_some] <;> rfl), by repeat (first | (with_reducible first | exact HI0.out | apply IsS71.alloc | apply IsS71.drewN | apply IsS71.drew) | exact HI0.out), by repeat (first | (with_reducible first | exact HB.out | apply below_alloc | apply pw_below_drewN | apply below_drew1 | refine below_set ?_ (IsS71.ge HI0.out)) | exact HB.out), by repeat (first | (with_reducible first | exact HK.out | apply Go.Proofs.Ytpojfebecmjloaa.Opq.KeepO.drewN | apply Go.Proofs.Ytpojfebecmjloaa.Opq.KeepO.drew | apply Go.Proofs.Ytpojfebecmjloaa.Opq.KeepO.alloc) | exact HK.out)⟩
                · rw [if_neg c32] at H
                  have c32b0 : (t175 == 0) = false := beq_eq_false_iff_ne.mpr c32
                  have c32b1 : (t175 != 0) = true := bne_iff_ne.mpr c32
                  simp only [Option.some.injEq, Prod.mk.injEq] at H
                  obtain ⟨rfl, rfl, rfl⟩ := H
                  go_wp2_with (first | ((with_reducible refine gate_callee (f := 21) rfl ?_); refine goesL_ (some 70) rfl rfl Try.func21 (by kernel_rfl) rfl #[.pointer (some ⟨g, 0, none⟩)] rfl (by (try simp only [List.map_toArray, List.map_cons, List.map_nil]); first | done | rfl | (simp only [List.length_drop, List.length_take]; rfl)) ?_; (with_reducible refine (sector_Disk_Flush.calls g x1000_2 t175 t176 w0 _ ?side1 ?side2 A31.out).mono ?_); (case side1 => repeat (first | (with_reducible first | exact HI0.out | apply IsS71.alloc | apply IsS71.drewN | apply IsS71.drew) | exact HI0.out)); (case side2 => repeat (first | (with_reducible first | exact HB.out | apply below_alloc | apply pw_below_drewN | apply below_drew1 | refine below_set ?_ (IsS71.ge HI0.out)) | exact HB.out)); rintro e w52 ⟨rfl, hi, hb, hk⟩; refine ⟨_, rfl, ?_⟩; have n0_ := Aside0.mk (Go.Proofs.Ytpojfebecmjloaa.Opq.KeepO.trans (by repeat (first | (with_reducible first | exact HK.out | apply Go.Proofs.Ytpojfebecmjloaa.Opq.KeepO.drewN | apply Go.Proofs.Ytpojfebecmjloaa.Opq.KeepO.drew | apply Go.Proofs.Ytpojfebecmjloaa.Opq.KeepO.alloc) | exact HK.out)) hk); have n1_ := Aside0.mk (hb); have n2_ := Aside0.mk (hi); clear HK; clear HB; clear HI0; have HK := n0_; have HB := n1_; have HI0 := n2_; clear n0_ n1_ n2_; (try clear hb); (try clear hb2); (try clear hk); (try clear hi)))
                  go_ret2
                  exact ⟨by first | rfl | (simp [errW_none, errW_some] <;> rfl) | (simp only [← hji13]; first | rfl | (simp [errW_none, errW_some] <;> rfl)) | (simp [*, errW_none, errW_some] <;> rfl), by repeat (first | (with_reducible first | exact HI0.out | apply IsS71.alloc | apply IsS71.drewN | apply IsS71.drew) | exact HI0.out), by repeat (first | (with_reducible first | exact HB.out | apply below_alloc | apply pw_below_drewN | apply below_drew1 | refine below_set ?_ (IsS71.ge HI0.out)) | exact HB.out), by repeat (first | (with_reducible first | exact HK.out | apply Go.Proofs.Ytpojfebecmjloaa.Opq.KeepO.drewN | apply Go.Proofs.Ytpojfebecmjloaa.Opq.KeepO.drew | apply Go.Proofs.Ytpojfebecmjloaa.Opq.KeepO.alloc) | exact HK.out)⟩

-- NOT PRINTED: function 59 (wal_Log_check)

-- NOT PRINTED: function 60 (wal_Log_done)

-- NOT PRINTED: function 36 (wal_Log_Append)

-- NOT PRINTED: function 38 (wal_Log_Gen)

-- NOT PRINTED: function 39 (wal_Log_Used)

end Go.Proofs.Ytpojfebecmjloaa.PWalSupers
