-- Lean text by a program of this repo (wip/tools/printx.py), out of Lean's own print of the translation
import Derived.Test.YtpojfebecmjloaaHelp
import Derived.Test.YtpojfebecmjloaaPWalSupersx0
import Derived.Test.YtpojfebecmjloaaPWalSupersx1
import Derived.Test.YtpojfebecmjloaaPWalSupersx2
namespace Go.Proofs.Ytpojfebecmjloaa.PWalSupers
open Go.RowKit Go.Proofs.YtpojfebecmjloaaW.PrintWords Go.Proofs.YtpojfebecmjloaaW.PrintLast Go.Proofs.YtpojfebecmjloaaW.PrintMore
attribute [local go_sem] max2_int min2_int max_two min_two max_three min_three max_four min_four   -- for this text's walks alone
set_option linter.unusedVariables false
set_option linter.unusedSimpArgs false

/-! ### region_Clean: function 25 -/
def region_Clean.l0 : Nat → Int → Bool → Int → Disk.DiskM → Option (Int × Disk.DiskM)
  | 0, _, _, _, _ => none
  | k + 1, x2, x7, x8, x1000 => (sector_Disk_Len.f x1000).bind fun bt109 => (if x8 < (mn x2 bt109.1) then ((sector_Disk_Read.f bt109.2 x8).bind fun bt113 => ((region_zero.f bt113.1).bind fun t118 => (if t118 = true then (region_Clean.l0 k x2 x7 (wrap64 (x8 + 1)) bt113.2.2) else ((sector_Disk_Write.f bt113.2.2 x8 ([] : List Int)).bind fun bt119 => (if bt119.1 = 0 then (region_Clean.l0 k x2 true (wrap64 (x8 + 1)) bt119.2) else (some (bt119.1, bt119.2))))))) else (if x7 = true then ((sector_Disk_Flush.f bt109.2).bind fun bt111 => (some (bt111.1, bt111.2))) else (some (0, bt109.2))))
def region_Clean.f (k : Nat) (s0_0 : Disk.DiskM) (a1 : Int) (a2 : Int) : Option (Int × Disk.DiskM) := region_Clean.l0 k a2 false (mx a1 0) s0_0
theorem region_Clean.mono_l : ∀ k, (∀ y0 y1 y2 y3, LeO (region_Clean.l0 k y0 y1 y2 y3) (region_Clean.l0 (k + 1) y0 y1 y2 y3))
  | 0 => fun _ _ _ _ r h => by simp [region_Clean.l0] at h
  | k + 1 => by
    have ih0 := region_Clean.mono_l k
    · intro y0 y1 y2 y3
      unfold region_Clean.l0
      repeat' first
      | (with_reducible exact ih0 _ _ _ _)
      | (with_reducible exact LeO.refl _)
      | (with_reducible exact LeO.none _)
      | (with_reducible refine LeO.ite ?_ ?_)
      | (with_reducible refine LeO.bind ?_ (fun _ => ?_))
      | exact ih0 _ _ _ _
      | exact LeO.none _
      | refine LeO.ite ?_ ?_
      | refine LeO.bind ?_ (fun _ => ?_)
theorem region_Clean.mono : ∀ a0 a1 a2 k, LeO (region_Clean.f k a0 a1 a2) (region_Clean.f (k + 1) a0 a1 a2) := by
  intro a0 a1 a2 k
  have ih0 := region_Clean.mono_l k
  unfold region_Clean.f
  repeat' first
      | (with_reducible exact ih0 _ _ _ _)
      | (with_reducible exact LeO.refl _)
      | (with_reducible exact LeO.none _)
      | (with_reducible refine LeO.ite ?_ ?_)
      | (with_reducible refine LeO.bind ?_ (fun _ => ?_))
      | exact ih0 _ _ _ _
      | exact LeO.none _
      | refine LeO.ite ?_ ?_
      | refine LeO.bind ?_ (fun _ => ?_)
set_option maxHeartbeats 8000000 in
set_option maxRecDepth 100000 in
theorem region_Clean.calls (k : Nat) (g : Nat) (s0_0 : Disk.DiskM) (a1 : Int) (a2 : Int) (r1 : Int) (r2 : Disk.DiskM) (w0 w : World) (hI : IsS71 w0 w g s0_0) (hB : Below w0.heap.size w0 w) (h : region_Clean.f k s0_0 a1 a2 = some (r1, r2)) :
    Calls Try.prog 25 #[.pointer (some ⟨g, 0, none⟩), .int .i64 a1, .int .i64 a2] w fun e w' => e = .returned (.int .i64 r1) ∧ IsS71 w0 w' g r2 ∧ Below w0.heap.size w0 w' ∧ Go.Proofs.Ytpojfebecmjloaa.Opq.KeepO ts71 w0.heap.size w w' := by
  have HI0 := Aside0.mk hI
  have HK := Aside0.mk (Go.Proofs.Ytpojfebecmjloaa.Opq.KeepO.refl ts71 w0.heap.size w)
  have HL := Aside0.mk hB.size
  clear hI
  have HW0 := Aside0.mk hB.size
  have HB := Aside0.mk hB
  clear hB
  have H : (region_Clean.l0 k a2 false (mx a1 0) s0_0) = some (r1, r2) := h
  clear h
  obtain ⟨ji4, hji4⟩ : ∃ j_ : Int, (mx a1 0) = j_ := ⟨_, rfl⟩
  replace H : (region_Clean.l0 k a2 false ji4 s0_0) = some (r1, r2) := by first | (rw [hji4] at H; exact H) | (simp only [hji4] at H ⊢; exact H)
  (try (have hji4l : 0 ≤ ji4 := by (rw [← hji4]; unfold mx; (repeat' split) <;> omega)))
  (try (have hji4m : 0 ≤ ji4 := by omega))
  have hji4_ : (if a1 < 0 then 0 else a1) = ji4 := hji4
  have H' := Aside0.mk H
  clear H
  go_enter Try.func25, Try.ntmps25
  go_wp2
  go_loopg [7, 8] k (fun kq v7 v8 w' => ∃ (x7_1 : Bool) (x8_1 : Int) (x1000_1 : Disk.DiskM), v7 = .bool x7_1 ∧ v8 = .int .i64 x8_1 ∧ Aside0 (region_Clean.l0 kq a2 x7_1 x8_1 x1000_1 = some (r1, r2)) ∧ Aside0 (kq ≤ k) ∧ Aside0 (IsS71 w0 w' g x1000_1) ∧ Aside0 (Go.Proofs.Ytpojfebecmjloaa.Opq.KeepO ts71 w0.heap.size w w') ∧ Aside0 (Below w0.heap.size w0 w'))
  case atStart => exact ⟨(false), (ji4), (s0_0), (by first | rfl | (simp; done) | (simp [*]; done)), (by first | rfl | (simp; done) | (simp only [← hji4] <;> (first | rfl | simp)) | (simp [*]; done)), H', ⟨Nat.le_refl _⟩, ⟨by repeat (first | (with_reducible first | exact HI0.out | apply IsS71.alloc | apply IsS71.drewN | apply IsS71.drew) | exact HI0.out)⟩, ⟨by repeat (first | (with_reducible first | exact HK.out | apply Go.Proofs.Ytpojfebecmjloaa.Opq.KeepO.drewN | apply Go.Proofs.Ytpojfebecmjloaa.Opq.KeepO.drew | apply Go.Proofs.Ytpojfebecmjloaa.Opq.KeepO.alloc) | exact HK.out)⟩, ⟨by repeat (first | (with_reducible first | exact HB.out | apply below_alloc | apply pw_below_drewN | apply below_drew1 | refine below_set ?_ (IsS71.ge HI0.out)) | exact HB.out)⟩⟩
  case round =>
    clear H'
    try clear c2
    try clear p2
    obtain ⟨x7_1, x8_1, x1000_1, rfl, rfl, HA, HK1, HI0, HK, HB⟩ := hrel
    cases gk with
    | zero => exact absurd HA.out (by simp [region_Clean.l0])
    | succ k1 =>
      have H := HA.out
      clear HA
      simp only [region_Clean.l0] at H
      replace H := Option.bind_eq_some_iff.mp H
      obtain ⟨⟨t109, t110⟩, A50, H⟩ := H
      replace H : (if x8_1 < (mn a2 t109) then ((sector_Disk_Read.f t110 x8_1).bind fun bt113 => ((region_zero.f bt113.1).bind fun t118 => (if t118 = true then (region_Clean.l0 k1 a2 x7_1 (wrap64 (x8_1 + 1)) bt113.2.2) else ((sector_Disk_Write.f bt113.2.2 x8_1 ([] : List Int)).bind fun bt119 => (if bt119.1 = 0 then (region_Clean.l0 k1 a2 true (wrap64 (x8_1 + 1)) bt119.2) else (some (bt119.1, bt119.2))))))) else (if x7_1 = true then ((sector_Disk_Flush.f t110).bind fun bt111 => (some (bt111.1, bt111.2))) else (some (0, t110)))) = some (r1, r2) := H
      have A5 := Aside0.mk A50
      clear A50
      obtain ⟨ji6, hji6⟩ : ∃ j_ : Int, (mn a2 t109) = j_ := ⟨_, rfl⟩
      replace H : (if x8_1 < (ji6) then ((sector_Disk_Read.f t110 x8_1).bind fun bt113 => ((region_zero.f bt113.1).bind fun t118 => (if t118 = true then (region_Clean.l0 k1 a2 x7_1 (wrap64 (x8_1 + 1)) bt113.2.2) else ((sector_Disk_Write.f bt113.2.2 x8_1 ([] : List Int)).bind fun bt119 => (if bt119.1 = 0 then (region_Clean.l0 k1 a2 true (wrap64 (x8_1 + 1)) bt119.2) else (some (bt119.1, bt119.2))))))) else (if x7_1 = true then ((sector_Disk_Flush.f t110).bind fun bt111 => (some (bt111.1, bt111.2))) else (some (0, t110)))) = some (r1, r2) := by first | (rw [hji6] at H; exact H) | (simp only [hji6] at H ⊢; exact H)
      (try rw [hji6] at A5)
      have hji6_ : (if t109 < a2 then t109 else a2) = ji6 := hji6
      by_cases c7 : x8_1 < (ji6)
      · rw [if_pos c7] at H
        have c7b0 : decide (x8_1 < (ji6)) = true := decide_eq_true c7
        clear c7
        replace H := Option.bind_eq_some_iff.mp H
        obtain ⟨⟨t113, t116, t117⟩, A80, H⟩ := H
        replace H : ((region_zero.f t113).bind fun t118 => (if t118 = true then (region_Clean.l0 k1 a2 x7_1 (wrap64 (x8_1 + 1)) t117) else ((sector_Disk_Write.f t117 x8_1 ([] : List Int)).bind fun bt119 => (if bt119.1 = 0 then (region_Clean.l0 k1 a2 true (wrap64 (x8_1 + 1)) bt119.2) else (some (bt119.1, bt119.2)))))) = some (r1, r2) := H
        have A8 := Aside0.mk A80
        clear A80
        replace H := Option.bind_eq_some_iff.mp H
        obtain ⟨t118, A90, H⟩ := H
        replace H : (if t118 = true then (region_Clean.l0 k1 a2 x7_1 (wrap64 (x8_1 + 1)) t117) else ((sector_Disk_Write.f t117 x8_1 ([] : List Int)).bind fun bt119 => (if bt119.1 = 0 then (region_Clean.l0 k1 a2 true (wrap64 (x8_1 + 1)) bt119.2) else (some (bt119.1, bt119.2))))) = some (r1, r2) := H
        have A9 := Aside0.mk A90
        clear A90
        by_cases c10 : t118 = true
        · subst c10
          have H1 : (region_Clean.l0 k1 a2 x7_1 (wrap64 (x8_1 + 1)) t117) = some (r1, r2) := by rw [if_pos rfl] at H; exact H
          clear H
          have H := H1
          clear H1
          have H' := Aside0.mk H
          clear H
          go_wp2_with (first | ((with_reducible refine gate_callee (f := 22) rfl ?_); refine goesL_ (some 17) rfl rfl Try.func22 (by kernel_rfl) rfl #[.pointer (some ⟨g, 0, none⟩)] rfl (by (try simp only [List.map_toArray, List.map_cons, List.map_nil]); first | done | rfl | (simp only [List.length_drop, List.length_take]; rfl)) ?_; (with_reducible refine (sector_Disk_Len.calls g x1000_1 t109 t110 w0 _ ?side1 ?side2 A5.out).mono ?_); (case side1 => repeat (first | (with_reducible first | exact HI0.out | apply IsS71.alloc | apply IsS71.drewN | apply IsS71.drew) | exact HI0.out)); (case side2 => repeat (first | (with_reducible first | exact HB.out | apply below_alloc | apply pw_below_drewN | apply below_drew1 | refine below_set ?_ (IsS71.ge HI0.out)) | exact HB.out)); rintro e w11 ⟨rfl, hi, hb, hk⟩; refine ⟨_, rfl, ?_⟩; have n0_ := Aside0.mk (Go.Proofs.Ytpojfebecmjloaa.Opq.KeepO.trans (by repeat (first | (with_reducible first | exact HK.out | apply Go.Proofs.Ytpojfebecmjloaa.Opq.KeepO.drewN | apply Go.Proofs.Ytpojfebecmjloaa.Opq.KeepO.drew | apply Go.Proofs.Ytpojfebecmjloaa.Opq.KeepO.alloc) | exact HK.out)) hk); have n1_ := Aside0.mk (hb); have n2_ := Aside0.mk (hi); clear HK; clear HB; clear HI0; have HK := n0_; have HB := n1_; have HI0 := n2_; clear n0_ n1_ n2_; (try clear hb); (try clear hb2); (try clear hk); (try clear hi)) | ((with_reducible refine gate_callee (f := 16) rfl ?_); refine goesL_ (some 25) rfl rfl Try.func16 (by kernel_rfl) rfl #[.pointer (some ⟨g, 0, none⟩), .int .i64 x8_1] rfl (by (try simp only [List.map_toArray, List.map_cons, List.map_nil]); first | done | rfl | (simp only [List.length_drop, List.length_take]; rfl)) ?_; (with_reducible refine (sector_Disk_Read.calls g t110 x8_1 t113 t116 t117 w0 _ ?side1 ?side2 A8.out).mono ?_); (case side1 => repeat (first | (with_reducible first | exact HI0.out | apply IsS71.alloc | apply IsS71.drewN | apply IsS71.drew) | exact HI0.out)); (case side2 => repeat (first | (with_reducible first | exact HB.out | apply below_alloc | apply pw_below_drewN | apply below_drew1 | refine below_set ?_ (IsS71.ge HI0.out)) | exact HB.out)); rintro e w12 ⟨v114, rfl, ho0, hi, hb, hk⟩; refine ⟨_, rfl, ?_⟩; have n0_ := Aside0.mk (Kd.R_lower ho0 (Go.Proofs.Ytpojfebecmjloaa.Opq.KeepO.size (by repeat (first | (with_reducible first | exact HK.out | apply Go.Proofs.Ytpojfebecmjloaa.Opq.KeepO.drewN | apply Go.Proofs.Ytpojfebecmjloaa.Opq.KeepO.drew | apply Go.Proofs.Ytpojfebecmjloaa.Opq.KeepO.alloc) | exact HK.out)))); have n1_ := Aside0.mk (Go.Proofs.Ytpojfebecmjloaa.Opq.KeepO.trans (by repeat (first | (with_reducible first | exact HK.out | apply Go.Proofs.Ytpojfebecmjloaa.Opq.KeepO.drewN | apply Go.Proofs.Ytpojfebecmjloaa.Opq.KeepO.drew | apply Go.Proofs.Ytpojfebecmjloaa.Opq.KeepO.alloc) | exact HK.out)) hk); have n2_ := Aside0.mk (hb); have n3_ := Aside0.mk (hi); clear HK; clear HB; clear HI0; have HO115 := n0_; have HK := n1_; have HB := n2_; have HI0 := n3_; clear n0_ n1_ n2_ n3_; (try clear hb); (try clear hb2); (try clear hk); (try clear hi); (try clear ho0); obtain ⟨Ao13, co13, eo13⟩ := Kd.R_slice HO115.out; subst eo13) | ((with_reducible refine gate_callee (f := 46) rfl ?_); refine goesL_ (some 29) rfl rfl Try.func46 (by kernel_rfl) rfl #[.slice Ao13 t113.length co13] rfl (by (try simp only [List.map_toArray, List.map_cons, List.map_nil]); first | done | rfl | (simp only [List.length_drop, List.length_take]; rfl)) ?_; (with_reducible refine (region_zero.calls _ _ t113 true _ ?side1 ?side2 A9.out).mono ?_); (case side1 => repeat (first | exact (Kd.R_reads' HO115.out).2.2 | (with_reducible refine Kd.C_alloc ?_ _) | (with_reducible refine Kd.C_drewN ?_ _) | (with_reducible refine Kd.C_drew ?_))); (case side2 => exact (Kd.R_reads' HO115.out).2.1); rintro e w14 ⟨rfl, hb⟩; refine ⟨_, rfl, ?_⟩; have n0_ := Aside0.mk (Kd.R_below (by (with_reducible repeat (first | apply Kd.R_alloc | apply Kd.R_drewN | apply Kd.R_drew)); exact HO115.out) hb); have n1_ := Aside0.mk (IsS71.below (by repeat (first | (with_reducible first | exact HI0.out | apply IsS71.alloc | apply IsS71.drewN | apply IsS71.drew) | exact HI0.out)) hb); have n2_ := Aside0.mk (Go.Proofs.Ytpojfebecmjloaa.Opq.KeepO.trans (by repeat (first | (with_reducible first | exact HK.out | apply Go.Proofs.Ytpojfebecmjloaa.Opq.KeepO.drewN | apply Go.Proofs.Ytpojfebecmjloaa.Opq.KeepO.drew | apply Go.Proofs.Ytpojfebecmjloaa.Opq.KeepO.alloc) | exact HK.out)) (Go.Proofs.Ytpojfebecmjloaa.Opq.KeepO.of_below hb)); have n3_ := Aside0.mk (below_step (by repeat (first | (with_reducible first | exact HB.out | apply below_alloc | apply pw_below_drewN | apply below_drew1 | refine below_set ?_ (IsS71.ge HI0.out)) | exact HB.out)) hb); clear HO115; clear HI0; clear HK; clear HB; have HO115 := n0_; have HI0 := n1_; have HK := n2_; have HB := n3_; clear n0_ n1_ n2_ n3_; (try clear hb); (try clear hb2); (try clear hk); (try clear hi)))
          go_roundg k1
          case measure => have := HK1.out; omega
          case rel => exact ⟨(x7_1), (wrap64 (x8_1 + 1)), (t117), (by first | rfl | (simp; done) | (simp [*]; done)), (by first | rfl | (simp; done) | (simp [*]; done)), H', ⟨by have := HK1.out; omega⟩, ⟨by repeat (first | (with_reducible first | exact HI0.out | apply IsS71.alloc | apply IsS71.drewN | apply IsS71.drew) | exact HI0.out)⟩, ⟨by repeat (first | (with_reducible first | exact HK.out | apply Go.Proofs.Ytpojfebecmjloaa.Opq.KeepO.drewN | apply Go.Proofs.Ytpojfebecmjloaa.Opq.KeepO.drew | apply Go.Proofs.Ytpojfebecmjloaa.Opq.KeepO.alloc) | exact HK.out)⟩, ⟨by repeat (first | (with_reducible first | exact HB.out | apply below_alloc | apply pw_below_drewN | apply below_drew1 | refine below_set ?_ (IsS71.ge HI0.out)) | exact HB.out)⟩⟩
        · replace c10 := Bool.eq_false_iff.mpr c10
          subst c10
          have H1 : ((sector_Disk_Write.f t117 x8_1 ([] : List Int)).bind fun bt119 => (if bt119.1 = 0 then (region_Clean.l0 k1 a2 true (wrap64 (x8_1 + 1)) bt119.2) else (some (bt119.1, bt119.2)))) = some (r1, r2) := by rw [if_neg (show ¬ (false = true) by decide)] at H; exact H
          clear H
          have H := H1
          clear H1
          replace H := Option.bind_eq_some_iff.mp H
          obtain ⟨⟨t119, t120⟩, A150, H⟩ := H
          replace H : (if t119 = 0 then (region_Clean.l0 k1 a2 true (wrap64 (x8_1 + 1)) t120) else (some (t119, t120))) = some (r1, r2) := H
          have A15 := Aside0.mk A150
          clear A150
          by_cases c16 : t119 = 0
          · rw [if_pos c16] at H
            have c16b0 : (t119 == 0) = true := beq_iff_eq.mpr c16
            have c16b1 : (t119 != 0) = false := bne_eq_false_iff_eq.mpr c16
            clear c16
            have H' := Aside0.mk H
            clear H
            go_wp2_with (first | ((with_reducible refine gate_callee (f := 22) rfl ?_); refine goesL_ (some 17) rfl rfl Try.func22 (by kernel_rfl) rfl #[.pointer (some ⟨g, 0, none⟩)] rfl (by (try simp only [List.map_toArray, List.map_cons, List.map_nil]); first | done | rfl | (simp only [List.length_drop, List.length_take]; rfl)) ?_; (with_reducible refine (sector_Disk_Len.calls g x1000_1 t109 t110 w0 _ ?side1 ?side2 A5.out).mono ?_); (case side1 => repeat (first | (with_reducible first | exact HI0.out | apply IsS71.alloc | apply IsS71.drewN | apply IsS71.drew) | exact HI0.out)); (case side2 => repeat (first | (with_reducible first | exact HB.out | apply below_alloc | apply pw_below_drewN | apply below_drew1 | refine below_set ?_ (IsS71.ge HI0.out)) | exact HB.out)); rintro e w17 ⟨rfl, hi, hb, hk⟩; refine ⟨_, rfl, ?_⟩; have n0_ := Aside0.mk (Go.Proofs.Ytpojfebecmjloaa.Opq.KeepO.trans (by repeat (first | (with_reducible first | exact HK.out | apply Go.Proofs.Ytpojfebecmjloaa.Opq.KeepO.drewN | apply Go.Proofs.Ytpojfebecmjloaa.Opq.KeepO.drew | apply Go.Proofs.Ytpojfebecmjloaa.Opq.KeepO.alloc) | exact HK.out)) hk); have n1_ := Aside0.mk (hb); have n2_ := Aside0.mk (hi); clear HK; clear HB; clear HI0; have HK := n0_; have HB := n1_; have HI0 := n2_; clear n0_ n1_ n2_; (try clear hb); (try clear hb2); (try clear hk); (try clear hi)) | ((with_reducible refine gate_callee (f := 16) rfl ?_); refine goesL_ (some 25) rfl rfl Try.func16 (by kernel_rfl) rfl #[.pointer (some ⟨g, 0, none⟩), .int .i64 x8_1] rfl (by (try simp only [List.map_toArray, List.map_cons, List.map_nil]); first | done | rfl | (simp only [List.length_drop, List.length_take]; rfl)) ?_; (with_reducible refine (sector_Disk_Read.calls g t110 x8_1 t113 t116 t117 w0 _ ?side1 ?side2 A8.out).mono ?_); (case side1 => repeat (first | (with_reducible first | exact HI0.out | apply IsS71.alloc | apply IsS71.drewN | apply IsS71.drew) | exact HI0.out)); (case side2 => repeat (first | (with_reducible first | exact HB.out | apply below_alloc | apply pw_below_drewN | apply below_drew1 | refine below_set ?_ (IsS71.ge HI0.out)) | exact HB.out)); rintro e w18 ⟨v114, rfl, ho0, hi, hb, hk⟩; refine ⟨_, rfl, ?_⟩; have n0_ := Aside0.mk (Kd.R_lower ho0 (Go.Proofs.Ytpojfebecmjloaa.Opq.KeepO.size (by repeat (first | (with_reducible first | exact HK.out | apply Go.Proofs.Ytpojfebecmjloaa.Opq.KeepO.drewN | apply Go.Proofs.Ytpojfebecmjloaa.Opq.KeepO.drew | apply Go.Proofs.Ytpojfebecmjloaa.Opq.KeepO.alloc) | exact HK.out)))); have n1_ := Aside0.mk (Go.Proofs.Ytpojfebecmjloaa.Opq.KeepO.trans (by repeat (first | (with_reducible first | exact HK.out | apply Go.Proofs.Ytpojfebecmjloaa.Opq.KeepO.drewN | apply Go.Proofs.Ytpojfebecmjloaa.Opq.KeepO.drew | apply Go.Proofs.Ytpojfebecmjloaa.Opq.KeepO.alloc) | exact HK.out)) hk); have n2_ := Aside0.mk (hb); have n3_ := Aside0.mk (hi); clear HK; clear HB; clear HI0; have HO115 := n0_; have HK := n1_; have HB := n2_; have HI0 := n3_; clear n0_ n1_ n2_ n3_; (try clear hb); (try clear hb2); (try clear hk); (try clear hi); (try clear ho0); obtain ⟨Ao19, co19, eo19⟩ := Kd.R_slice HO115.out; subst eo19) | ((with_reducible refine gate_callee (f := 46) rfl ?_); refine goesL_ (some 29) rfl rfl Try.func46 (by kernel_rfl) rfl #[.slice Ao19 t113.length co19] rfl (by (try simp only [List.map_toArray, List.map_cons, List.map_nil]); first | done | rfl | (simp only [List.length_drop, List.length_take]; rfl)) ?_; (with_reducible refine (region_zero.calls _ _ t113 false _ ?side1 ?side2 A9.out).mono ?_); (case side1 => repeat (first | exact (Kd.R_reads' HO115.out).2.2 | (with_reducible refine Kd.C_alloc ?_ _) | (with_reducible refine Kd.C_drewN ?_ _) | (with_reducible refine Kd.C_drew ?_))); (case side2 => exact (Kd.R_reads' HO115.out).2.1); rintro e w20 ⟨rfl, hb⟩; refine ⟨_, rfl, ?_⟩; have n0_ := Aside0.mk (Kd.R_below (by (with_reducible repeat (first | apply Kd.R_alloc | apply Kd.R_drewN | apply Kd.R_drew)); exact HO115.out) hb); have n1_ := Aside0.mk (IsS71.below (by repeat (first | (with_reducible first | exact HI0.out | apply IsS71.alloc | apply IsS71.drewN | apply IsS71.drew) | exact HI0.out)) hb); have n2_ := Aside0.mk (Go.Proofs.Ytpojfebecmjloaa.Opq.KeepO.trans (by repeat (first | (with_reducible first | exact HK.out | apply Go.Proofs.Ytpojfebecmjloaa.Opq.KeepO.drewN | apply Go.Proofs.Ytpojfebecmjloaa.Opq.KeepO.drew | apply Go.Proofs.Ytpojfebecmjloaa.Opq.KeepO.alloc) | exact HK.out)) (Go.Proofs.Ytpojfebecmjloaa.Opq.KeepO.of_below hb)); have n3_ := Aside0.mk (below_step (by repeat (first | (with_reducible first | exact HB.out | apply below_alloc | apply pw_below_drewN | apply below_drew1 | refine below_set ?_ (IsS71.ge HI0.out)) | exact HB.out)) hb); clear HO115; clear HI0; clear HK; clear HB; have HO115 := n0_; have HI0 := n1_; have HK := n2_; have HB := n3_; clear n0_ n1_ n2_ n3_; (try clear hb); (try clear hb2); (try clear hk); (try clear hi)) | ((with_reducible refine gate_callee (f := 14) rfl ?_); refine goesL_ (some 33) rfl rfl Try.func14 (by kernel_rfl) rfl #[.pointer (some ⟨g, 0, none⟩), .int .i64 x8_1, .slice none 0 0] rfl (by (try simp only [List.map_toArray, List.map_cons, List.map_nil]); first | done | rfl | (simp only [List.length_drop, List.length_take]; rfl)) ?_; (refine (sector_Disk_Write.calls g t117 x8_1 _ _ ([] : List Int) t119 t120 w0 _ ?side1 ?side2 ?side3 ?side4 A15.out).mono ?_); (case side1 => repeat (first | (with_reducible first | exact HI0.out | apply IsS71.alloc | apply IsS71.drewN | apply IsS71.drew) | exact HI0.out)); (case side2 => repeat (first | (with_reducible first | exact HB.out | apply below_alloc | apply pw_below_drewN | apply below_drew1 | refine below_set ?_ (IsS71.ge HI0.out)) | exact HB.out)); (case side3 => exact Go.Proofs.Ytpojfebecmjloaa.Opq.C_nil); (case side4 => exact Nat.le_refl _); rintro e w21 ⟨rfl, hi, hb, hk⟩; refine ⟨_, rfl, ?_⟩; have n0_ := Aside0.mk (Go.Proofs.Ytpojfebecmjloaa.Opq.R_keep (by (with_reducible repeat (first | apply Kd.R_alloc | apply Kd.R_drewN | apply Kd.R_drew)); exact HO115.out) hk (by decide)); have n1_ := Aside0.mk (Go.Proofs.Ytpojfebecmjloaa.Opq.KeepO.trans (by repeat (first | (with_reducible first | exact HK.out | apply Go.Proofs.Ytpojfebecmjloaa.Opq.KeepO.drewN | apply Go.Proofs.Ytpojfebecmjloaa.Opq.KeepO.drew | apply Go.Proofs.Ytpojfebecmjloaa.Opq.KeepO.alloc) | exact HK.out)) hk); have n2_ := Aside0.mk (hb); have n3_ := Aside0.mk (hi); clear HO115; clear HK; clear HB; clear HI0; have HO115 := n0_; have HK := n1_; have HB := n2_; have HI0 := n3_; clear n0_ n1_ n2_ n3_; (try clear hb); (try clear hb2); (try clear hk); (try clear hi)))
            go_roundg k1
            case measure => have := HK1.out; omega
            case rel => exact ⟨(true), (wrap64 (x8_1 + 1)), (t120), (by first | rfl | (simp; done) | (simp [*]; done)), (by first | rfl | (simp; done) | (simp [*]; done)), H', ⟨by have := HK1.out; omega⟩, ⟨by repeat (first | (with_reducible first | exact HI0.out | apply IsS71.alloc | apply IsS71.drewN | apply IsS71.drew) | exact HI0.out)⟩, ⟨by repeat (first | (with_reducible first | exact HK.out | apply Go.Proofs.Ytpojfebecmjloaa.Opq.KeepO.drewN | apply Go.Proofs.Ytpojfebecmjloaa.Opq.KeepO.drew | apply Go.Proofs.Ytpojfebecmjloaa.Opq.KeepO.alloc) | exact HK.out)⟩, ⟨by repeat (first | (with_reducible first | exact HB.out | apply below_alloc | apply pw_below_drewN | apply below_drew1 | refine below_set ?_ (IsS71.ge HI0.out)) | exact HB.out)⟩⟩
          · rw [if_neg c16] at H
            have c16b0 : (t119 == 0) = false := beq_eq_false_iff_ne.mpr c16
            have c16b1 : (t119 != 0) = true := bne_iff_ne.mpr c16
            simp only [Option.some.injEq, Prod.mk.injEq] at H
            obtain ⟨rfl, rfl⟩ := H
            go_wp2_with (first | ((with_reducible refine gate_callee (f := 22) rfl ?_); refine goesL_ (some 17) rfl rfl Try.func22 (by kernel_rfl) rfl #[.pointer (some ⟨g, 0, none⟩)] rfl (by (try simp only [List.map_toArray, List.map_cons, List.map_nil]); first | done | rfl | (simp only [List.length_drop, List.length_take]; rfl)) ?_; (with_reducible refine (sector_Disk_Len.calls g x1000_1 t109 t110 w0 _ ?side1 ?side2 A5.out).mono ?_); (case side1 => repeat (first | (with_reducible first | exact HI0.out | apply IsS71.alloc | apply IsS71.drewN | apply IsS71.drew) | exact HI0.out)); (case side2 => repeat (first | (with_reducible first | exact HB.out | apply below_alloc | apply pw_below_drewN | apply below_drew1 | refine below_set ?_ (IsS71.ge HI0.out)) | exact HB.out)); rintro e w22 ⟨rfl, hi, hb, hk⟩; refine ⟨_, rfl, ?_⟩; have n0_ := Aside0.mk (Go.Proofs.Ytpojfebecmjloaa.Opq.KeepO.trans (by repeat (first | (with_reducible first | exact HK.out | apply Go.Proofs.Ytpojfebecmjloaa.Opq.KeepO.drewN | apply Go.Proofs.Ytpojfebecmjloaa.Opq.KeepO.drew | apply Go.Proofs.Ytpojfebecmjloaa.Opq.KeepO.alloc) | exact HK.out)) hk); have n1_ := Aside0.mk (hb); have n2_ := Aside0.mk (hi); clear HK; clear HB; clear HI0; have HK := n0_; have HB := n1_; have HI0 := n2_; clear n0_ n1_ n2_; (try clear hb); (try clear hb2); (try clear hk); (try clear hi)) | ((with_reducible refine gate_callee (f := 16) rfl ?_); refine goesL_ (some 25) rfl rfl Try.func16 (by kernel_rfl) rfl #[.pointer (some ⟨g, 0, none⟩), .int .i64 x8_1] rfl (by (try simp only [List.map_toArray, List.map_cons, List.map_nil]); first | done | rfl | (simp only [List.length_drop, List.length_take]; rfl)) ?_; (with_reducible refine (sector_Disk_Read.calls g t110 x8_1 t113 t116 t117 w0 _ ?side1 ?side2 A8.out).mono ?_); (case side1 => repeat (first | (with_reducible first | exact HI0.out | apply IsS71.alloc | apply IsS71.drewN | apply IsS71.drew) | exact HI0.out)); (case side2 => repeat (first | (with_reducible first | exact HB.out | apply below_alloc | apply pw_below_drewN | apply below_drew1 | refine below_set ?_ (IsS71.ge HI0.out)) | exact HB.out)); rintro e w23 ⟨v114, rfl, ho0, hi, hb, hk⟩; refine ⟨_, rfl, ?_⟩; have n0_ := Aside0.mk (Kd.R_lower ho0 (Go.Proofs.Ytpojfebecmjloaa.Opq.KeepO.size (by repeat (first | (with_reducible first | exact HK.out | apply Go.Proofs.Ytpojfebecmjloaa.Opq.KeepO.drewN | apply Go.Proofs.Ytpojfebecmjloaa.Opq.KeepO.drew | apply Go.Proofs.Ytpojfebecmjloaa.Opq.KeepO.alloc) | exact HK.out)))); have n1_ := Aside0.mk (Go.Proofs.Ytpojfebecmjloaa.Opq.KeepO.trans (by repeat (first | (with_reducible first | exact HK.out | apply Go.Proofs.Ytpojfebecmjloaa.Opq.KeepO.drewN | apply Go.Proofs.Ytpojfebecmjloaa.Opq.KeepO.drew | apply Go.Proofs.Ytpojfebecmjloaa.Opq.KeepO.alloc) | exact HK.out)) hk); have n2_ := Aside0.mk (hb); have n3_ := Aside0.mk (hi); clear HK; clear HB; clear HI0; have HO115 := n0_; have HK := n1_; have HB := n2_; have HI0 := n3_; clear n0_ n1_ n2_ n3_; (try clear hb); (try clear hb2); (try clear hk); (try clear hi); (try clear ho0); obtain ⟨Ao24, co24, eo24⟩ := Kd.R_slice HO115.out; subst eo24) | ((with_reducible refine gate_callee (f := 46) rfl ?_); refine goesL_ (some 29) rfl rfl Try.func46 (by kernel_rfl) rfl #[.slice Ao24 t113.length co24] rfl (by (try simp only [List.map_toArray, List.map_cons, List.map_nil]); first | done | rfl | (simp only [List.length_drop, List.length_take]; rfl)) ?_; (with_reducible refine (region_zero.calls _ _ t113 false _ ?side1 ?side2 A9.out).mono ?_); (case side1 => repeat (first | exact (Kd.R_reads' HO115.out).2.2 | (with_reducible refine Kd.C_alloc ?_ _) | (with_reducible refine Kd.C_drewN ?_ _) | (with_reducible refine Kd.C_drew ?_))); (case side2 => exact (Kd.R_reads' HO115.out).2.1); rintro e w25 ⟨rfl, hb⟩; refine ⟨_, rfl, ?_⟩; have n0_ := Aside0.mk (Kd.R_below (by (with_reducible repeat (first | apply Kd.R_alloc | apply Kd.R_drewN | apply Kd.R_drew)); exact HO115.out) hb); have n1_ := Aside0.mk (IsS71.below (by repeat (first | (with_reducible first | exact HI0.out | apply IsS71.alloc | apply IsS71.drewN | apply IsS71.drew) | exact HI0.out)) hb); have n2_ := Aside0.mk (Go.Proofs.Ytpojfebecmjloaa.Opq.KeepO.trans (by repeat (first | (with_reducible first | exact HK.out | apply Go.Proofs.Ytpojfebecmjloaa.Opq.KeepO.drewN | apply Go.Proofs.Ytpojfebecmjloaa.Opq.KeepO.drew | apply Go.Proofs.Ytpojfebecmjloaa.Opq.KeepO.alloc) | exact HK.out)) (Go.Proofs.Ytpojfebecmjloaa.Opq.KeepO.of_below hb)); have n3_ := Aside0.mk (below_step (by repeat (first | (with_reducible first | exact HB.out | apply below_alloc | apply pw_below_drewN | apply below_drew1 | refine below_set ?_ (IsS71.ge HI0.out)) | exact HB.out)) hb); clear HO115; clear HI0; clear HK; clear HB; have HO115 := n0_; have HI0 := n1_; have HK := n2_; have HB := n3_; clear n0_ n1_ n2_ n3_; (try clear hb); (try clear hb2); (try clear hk); (try clear hi)) | ((with_reducible refine gate_callee (f := 14) rfl ?_); refine goesL_ (some 33) rfl rfl Try.func14 (by kernel_rfl) rfl #[.pointer (some ⟨g, 0, none⟩), .int .i64 x8_1, .slice none 0 0] rfl (by (try simp only [List.map_toArray, List.map_cons, List.map_nil]); first | done | rfl | (simp only [List.length_drop, List.length_take]; rfl)) ?_; (refine (sector_Disk_Write.calls g t117 x8_1 _ _ ([] : List Int) t119 t120 w0 _ ?side1 ?side2 ?side3 ?side4 A15.out).mono ?_); (case side1 => repeat (first | (with_reducible first | exact HI0.out | apply IsS71.alloc | apply IsS71.drewN | apply IsS71.drew) | exact HI0.out)); (case side2 => repeat (first | (with_reducible first | exact HB.out | apply below_alloc | apply pw_below_drewN | apply below_drew1 | refine below_set ?_ (IsS71.ge HI0.out)) | exact HB.out)); (case side3 => exact Go.Proofs.Ytpojfebecmjloaa.Opq.C_nil); (case side4 => exact Nat.le_refl _); rintro e w26 ⟨rfl, hi, hb, hk⟩; refine ⟨_, rfl, ?_⟩; have n0_ := Aside0.mk (Go.Proofs.Ytpojfebecmjloaa.Opq.R_keep (by (with_reducible repeat (first | apply Kd.R_alloc | apply Kd.R_drewN | apply Kd.R_drew)); exact HO115.out) hk (by decide)); have n1_ := Aside0.mk (Go.Proofs.Ytpojfebecmjloaa.Opq.KeepO.trans (by repeat (first | (with_reducible first | exact HK.out | apply Go.Proofs.Ytpojfebecmjloaa.Opq.KeepO.drewN | apply Go.Proofs.Ytpojfebecmjloaa.Opq.KeepO.drew | apply Go.Proofs.Ytpojfebecmjloaa.Opq.KeepO.alloc) | exact HK.out)) hk); have n2_ := Aside0.mk (hb); have n3_ := Aside0.mk (hi); clear HO115; clear HK; clear HB; clear HI0; have HO115 := n0_; have HK := n1_; have HB := n2_; have HI0 := n3_; clear n0_ n1_ n2_ n3_; (try clear hb); (try clear hb2); (try clear hk); (try clear hi)))
            go_ret
            exact ⟨by first | rfl | (simp [errW_none, errW_some] <;> rfl) | (simp only [← hji4, ← hji6]; first | rfl | (simp [errW_none, errW_some] <;> rfl)) | (simp [*, errW_none, errW_some] <;> rfl), by repeat (first | (with_reducible first | exact HI0.out | apply IsS71.alloc | apply IsS71.drewN | apply IsS71.drew) | exact HI0.out), by repeat (first | (with_reducible first | exact HB.out | apply below_alloc | apply pw_below_drewN | apply below_drew1 | refine below_set ?_ (IsS71.ge HI0.out)) | exact HB.out), by repeat (first | (with_reducible first | exact HK.out | apply Go.Proofs.Ytpojfebecmjloaa.Opq.KeepO.drewN | apply Go.Proofs.Ytpojfebecmjloaa.Opq.KeepO.drew | apply Go.Proofs.Ytpojfebecmjloaa.Opq.KeepO.alloc) | exact HK.out)⟩
      · rw [if_neg c7] at H
        have c7b0 : decide (x8_1 < (ji6)) = false := decide_eq_false c7
        clear c7
        by_cases c27 : x7_1 = true
        · subst c27
          have H1 : ((sector_Disk_Flush.f t110).bind fun bt111 => (some (bt111.1, bt111.2))) = some (r1, r2) := by rw [if_pos rfl] at H; exact H
          clear H
          have H := H1
          clear H1
          replace H := Option.bind_eq_some_iff.mp H
          obtain ⟨⟨t111, t112⟩, A280, H⟩ := H
          replace H : (some (t111, t112)) = some (r1, r2) := H
          have A28 := Aside0.mk A280
          clear A280
          simp only [Option.some.injEq, Prod.mk.injEq] at H
          obtain ⟨rfl, rfl⟩ := H
          go_wp2_with (first | ((with_reducible refine gate_callee (f := 22) rfl ?_); refine goesL_ (some 17) rfl rfl Try.func22 (by kernel_rfl) rfl #[.pointer (some ⟨g, 0, none⟩)] rfl (by (try simp only [List.map_toArray, List.map_cons, List.map_nil]); first | done | rfl | (simp only [List.length_drop, List.length_take]; rfl)) ?_; (with_reducible refine (sector_Disk_Len.calls g x1000_1 t109 t110 w0 _ ?side1 ?side2 A5.out).mono ?_); (case side1 => repeat (first | (with_reducible first | exact HI0.out | apply IsS71.alloc | apply IsS71.drewN | apply IsS71.drew) | exact HI0.out)); (case side2 => repeat (first | (with_reducible first | exact HB.out | apply below_alloc | apply pw_below_drewN | apply below_drew1 | refine below_set ?_ (IsS71.ge HI0.out)) | exact HB.out)); rintro e w29 ⟨rfl, hi, hb, hk⟩; refine ⟨_, rfl, ?_⟩; have n0_ := Aside0.mk (Go.Proofs.Ytpojfebecmjloaa.Opq.KeepO.trans (by repeat (first | (with_reducible first | exact HK.out | apply Go.Proofs.Ytpojfebecmjloaa.Opq.KeepO.drewN | apply Go.Proofs.Ytpojfebecmjloaa.Opq.KeepO.drew | apply Go.Proofs.Ytpojfebecmjloaa.Opq.KeepO.alloc) | exact HK.out)) hk); have n1_ := Aside0.mk (hb); have n2_ := Aside0.mk (hi); clear HK; clear HB; clear HI0; have HK := n0_; have HB := n1_; have HI0 := n2_; clear n0_ n1_ n2_; (try clear hb); (try clear hb2); (try clear hk); (try clear hi)) | ((with_reducible refine gate_callee (f := 21) rfl ?_); refine goesL_ (some 40) rfl rfl Try.func21 (by kernel_rfl) rfl #[.pointer (some ⟨g, 0, none⟩)] rfl (by (try simp only [List.map_toArray, List.map_cons, List.map_nil]); first | done | rfl | (simp only [List.length_drop, List.length_take]; rfl)) ?_; (with_reducible refine (sector_Disk_Flush.calls g t110 t111 t112 w0 _ ?side1 ?side2 A28.out).mono ?_); (case side1 => repeat (first | (with_reducible first | exact HI0.out | apply IsS71.alloc | apply IsS71.drewN | apply IsS71.drew) | exact HI0.out)); (case side2 => repeat (first | (with_reducible first | exact HB.out | apply below_alloc | apply pw_below_drewN | apply below_drew1 | refine below_set ?_ (IsS71.ge HI0.out)) | exact HB.out)); rintro e w30 ⟨rfl, hi, hb, hk⟩; refine ⟨_, rfl, ?_⟩; have n0_ := Aside0.mk (Go.Proofs.Ytpojfebecmjloaa.Opq.KeepO.trans (by repeat (first | (with_reducible first | exact HK.out | apply Go.Proofs.Ytpojfebecmjloaa.Opq.KeepO.drewN | apply Go.Proofs.Ytpojfebecmjloaa.Opq.KeepO.drew | apply Go.Proofs.Ytpojfebecmjloaa.Opq.KeepO.alloc) | exact HK.out)) hk); have n1_ := Aside0.mk (hb); have n2_ := Aside0.mk (hi); clear HK; clear HB; clear HI0; have HK := n0_; have HB := n1_; have HI0 := n2_; clear n0_ n1_ n2_; (try clear hb); (try clear hb2); (try clear hk); (try clear hi)))
          go_ret
          exact ⟨by first | rfl | (simp [errW_none, errW_some] <;> rfl) | (simp only [← hji4, ← hji6]; first | rfl | (simp [errW_none, errW_some] <;> rfl)) | (simp [*, errW_none, errW_some] <;> rfl), by repeat (first | (with_reducible first | exact HI0.out | apply IsS71.alloc | apply IsS71.drewN | apply IsS71.drew) | exact HI0.out), by repeat (first | (with_reducible first | exact HB.out | apply below_alloc | apply pw_below_drewN | apply below_drew1 | refine below_set ?_ (IsS71.ge HI0.out)) | exact HB.out), by repeat (first | (with_reducible first | exact HK.out | apply Go.Proofs.Ytpojfebecmjloaa.Opq.KeepO.drewN | apply Go.Proofs.Ytpojfebecmjloaa.Opq.KeepO.drew | apply Go.Proofs.Ytpojfebecmjloaa.Opq.KeepO.alloc) | exact HK.out)⟩
        · replace c27 := Bool.eq_false_iff.mpr c27
          subst c27
          have H1 : (some (0, t110)) = some (r1, r2) := by rw [if_neg (show ¬ (false = true) by decide)] at H; exact H
          clear H
          have H := H1
          clear H1
          simp only [Option.some.injEq, Prod.mk.injEq] at H
          obtain ⟨rfl, rfl⟩ := H
          go_wp2_with (first | ((with_reducible refine gate_callee (f := 22) rfl ?_); refine goesL_ (some 17) rfl rfl Try.func22 (by kernel_rfl) rfl #[.pointer (some ⟨g, 0, none⟩)] rfl (by (try simp only [List.map_toArray, List.map_cons, List.map_nil]); first | done | rfl | (simp only [List.length_drop, List.length_take]; rfl)) ?_; (with_reducible refine (sector_Disk_Len.calls g x1000_1 t109 t110 w0 _ ?side1 ?side2 A5.out).mono ?_); (case side1 => repeat (first | (with_reducible first | exact HI0.out | apply IsS71.alloc | apply IsS71.drewN | apply IsS71.drew) | exact HI0.out)); (case side2 => repeat (first | (with_reducible first | exact HB.out | apply below_alloc | apply pw_below_drewN | apply below_drew1 | refine below_set ?_ (IsS71.ge HI0.out)) | exact HB.out)); rintro e w31 ⟨rfl, hi, hb, hk⟩; refine ⟨_, rfl, ?_⟩; have n0_ := Aside0.mk (Go.Proofs.Ytpojfebecmjloaa.Opq.KeepO.trans (by repeat (first | (with_reducible first | exact HK.out | apply Go.Proofs.Ytpojfebecmjloaa.Opq.KeepO.drewN | apply Go.Proofs.Ytpojfebecmjloaa.Opq.KeepO.drew | apply Go.Proofs.Ytpojfebecmjloaa.Opq.KeepO.alloc) | exact HK.out)) hk); have n1_ := Aside0.mk (hb); have n2_ := Aside0.mk (hi); clear HK; clear HB; clear HI0; have HK := n0_; have HB := n1_; have HI0 := n2_; clear n0_ n1_ n2_; (try clear hb); (try clear hb2); (try clear hk); (try clear hi)))
          go_ret
          exact ⟨by first | rfl | (simp [errW_none, errW_some] <;> rfl) | (simp only [← hji4, ← hji6]; first | rfl | (simp [errW_none, errW_some] <;> rfl)) | (simp [*, errW_none, errW_some] <;> rfl), by repeat (first | (with_reducible first | exact HI0.out | apply IsS71.alloc | apply IsS71.drewN | apply IsS71.drew) | exact HI0.out), by repeat (first | (with_reducible first | exact HB.out | apply below_alloc | apply pw_below_drewN | apply below_drew1 | refine below_set ?_ (IsS71.ge HI0.out)) | exact HB.out), by repeat (first | (with_reducible first | exact HK.out | apply Go.Proofs.Ytpojfebecmjloaa.Opq.KeepO.drewN | apply Go.Proofs.Ytpojfebecmjloaa.Opq.KeepO.drew | apply Go.Proofs.Ytpojfebecmjloaa.Opq.KeepO.alloc) | exact HK.out)⟩

/-! ### region_Size: function 45 -/
def region_Size.f (a0 : Int) : Option (Int) := some (wrap64 (1 + (wrap64 (Int.tdiv (wrap64 ((wrap64 ((mx a0 0) + 64)) - 1)) 64))))
set_option maxHeartbeats 8000000 in
set_option maxRecDepth 100000 in
theorem region_Size.calls (a0 : Int) (r : Int) (w : World) (h : region_Size.f a0 = some r) :
    Calls Try.prog 45 #[.int .i64 a0] w fun e w' => e = .returned (.int .i64 r) ∧ Below w.heap.size w w' := by
  have HB := Aside0.mk (Below.refl w.heap.size w)
  have H : (some (wrap64 (1 + (wrap64 (Int.tdiv (wrap64 ((wrap64 ((mx a0 0) + 64)) - 1)) 64))))) = some r := h
  clear h
  obtain ⟨ji2, hji2⟩ : ∃ j_ : Int, (mx a0 0) = j_ := ⟨_, rfl⟩
  replace H : (some (wrap64 (1 + (wrap64 (Int.tdiv (wrap64 ((wrap64 ((ji2) + 64)) - 1)) 64))))) = some r := by first | (rw [hji2] at H; exact H) | (simp only [hji2] at H ⊢; exact H)
  (try (have hji2l : 0 ≤ ji2 := by (rw [← hji2]; unfold mx; (repeat' split) <;> omega)))
  (try (have hji2m : 0 ≤ ji2 := by omega))
  have hji2_ : (if a0 < 0 then 0 else a0) = ji2 := hji2
  obtain rfl := Option.some.inj H
  go_enter Try.func45, Try.ntmps45
  go_wp2
  go_ret
  exact ⟨by first | rfl | (simp [errW_none, errW_some] <;> rfl) | (simp only [← hji2]; first | rfl | (simp [errW_none, errW_some] <;> rfl)) | (simp [*, errW_none, errW_some] <;> rfl), by repeat (first | (with_reducible first | exact HB.out | apply below_alloc | apply pw_below_drewN | apply below_drew1) | exact HB.out)⟩

/-! ### region_Put: function 65 -/
def region_Put.f (l0 : List Int) (a1 : Int) : Option (List Int) := (some (([(a1 / 16777216) % 256, (a1 / 65536) % 256, (a1 / 256) % 256, (a1) % 256] : List Int) : List Int)).bind fun y121 => (if l0.length + y121.length < 140737488355328 then (some (l0 ++ y121)) else (none))
set_option maxHeartbeats 8000000 in
set_option maxRecDepth 100000 in
theorem region_Put.calls (P0_ : Nat → Prop) (u9000_ : Value) (l0 : List Int) (a1 : Int) (r : List Int) (w0 w : World) (hB : Below w0.heap.size w0 w) (ho0 : Kd.R (Kd.int .u8) 5 w w0.heap.size P0_ u9000_ l0) (h : region_Put.f l0 a1 = some r) :
    Calls Try.prog 65 #[u9000_, .int .u32 a1] w fun e w' => ∃ v0_ : Value, e = .returned (v0_) ∧ Kd.R (Kd.int .u8) 5 w' w0.heap.size (fun k_ => (P0_ k_ ∨ w.heap.size ≤ k_)) v0_ r ∧ Below w0.heap.size w0 w' ∧ Kept w w' (fun k_ => P0_ k_) := by
  have HO0 := Aside0.mk (show Kd.R (Kd.int .u8) 5 w w0.heap.size (fun k_ => (P0_ k_ ∨ w.heap.size ≤ k_)) u9000_ l0 from Kd.R_mono ho0 (fun k_ hk => (.inl hk)))
  have HK := Aside0.mk (Kept.refl w (fun k_ => P0_ k_))
  have HW0 := Aside0.mk hB.size
  have HB := Aside0.mk hB
  clear hB
  have H : ((some (([(a1 / 16777216) % 256, (a1 / 65536) % 256, (a1 / 256) % 256, (a1) % 256] : List Int) : List Int)).bind fun y121 => (if l0.length + y121.length < 140737488355328 then (some (l0 ++ y121)) else (none))) = some r := h
  clear h
  obtain ⟨y121, hy121⟩ : ∃ y_ : List Int, y_ = (([(a1 / 16777216) % 256, (a1 / 65536) % 256, (a1 / 256) % 256, (a1) % 256] : List Int)) := ⟨_, rfl⟩
  replace H : (if l0.length + y121.length < 140737488355328 then (some (l0 ++ y121)) else (none)) = some r := by first | (rw [hy121]; with_reducible exact H) | (have H2_ := (Option.bind_some _ _).symm.trans H; rw [hy121]; with_reducible exact H2_) | (have H2_ := (Option.bind_some _ _).symm.trans H; with_reducible exact H2_) | with_reducible exact H | (rw [hy121]; exact H) | exact H
  have Ny121 := Aside0.mk hy121
  clear hy121
  by_cases c3 : l0.length + y121.length < 140737488355328
  · rw [if_pos c3] at H
    have LMc3 := Aside0.mk c3
    clear c3
    obtain ⟨y124, hy124⟩ : ∃ y_ : List Int, y_ = (l0 ++ y121) := ⟨_, rfl⟩
    replace H : (some y124) = some r := by first | (rw [hy124]; with_reducible exact H) | (have H2_ := (Option.bind_some _ _).symm.trans H; rw [hy124]; with_reducible exact H2_) | (have H2_ := (Option.bind_some _ _).symm.trans H; with_reducible exact H2_) | with_reducible exact H | (rw [hy124]; exact H) | exact H
    have Ny124 := Aside0.mk hy124
    clear hy124
    obtain rfl := Option.some.inj H
    go_enter Try.func65, Try.ntmps65
    go_wp2_with (first | ((with_reducible refine gate_dst (N := 17) rfl ?_); refine Kd.R_lit (Kd.int .u8) _ 5 ?hg (N := 17) ?hd (xs := ([(a1 / 16777216) % 256, (a1 / 65536) % 256, (a1 / 256) % 256, (a1) % 256] : List Int)) (inner := [.int .u8 ((a1 / 16777216) % 256), .int .u8 ((a1 / 65536) % 256), .int .u8 ((a1 / 256) % 256), .int .u8 ((a1) % 256)]) (ok := fun _ => True) (okp := fun _ => True) ?hr ?hp (fun _ hk => hk) trivial (Below.refl _ _) (Nat.le_refl _) (by simp) ?_; (case hd => rfl); (case hg => rfl); (case hr => first | (go_simp; done) | (go_simp; rfl) | (go_simp; simp [IntKind.wrap_u8, IntKind.wrap_u32]; done)); (case hp => exact (Reps.one (show Kd.M (Kd.int .u8) _ _ _ ((a1 / 16777216) % 256) [.int .u8 ((a1 / 16777216) % 256)] from rfl) (Reps.one (show Kd.M (Kd.int .u8) _ _ _ ((a1 / 65536) % 256) [.int .u8 ((a1 / 65536) % 256)] from rfl) (Reps.one (show Kd.M (Kd.int .u8) _ _ _ ((a1 / 256) % 256) [.int .u8 ((a1 / 256) % 256)] from rfl) (Reps.one (show Kd.M (Kd.int .u8) _ _ _ ((a1) % 256) [.int .u8 ((a1) % 256)] from rfl) (Reps.none _ _)))))); intro v122 w4 ho5 hb hg_ hnew_; clear hg_ hnew_; (first | rw [← Ny121.out] at ho5 | (simp only [Int.reduceToNat] at ho5; rw [← Ny121.out] at ho5)); have n0_ := Aside0.mk (Kd.R_elder' (by (with_reducible repeat (first | apply Kd.R_alloc | apply Kd.R_drewN | apply Kd.R_drew)); exact HO0.out) (Kd.R_base ho5) hb); have n1_ := Aside0.mk (Kd.R_lower (Kd.R_new' (Kd.R_newM (M := fun k_ => (P0_ k_ ∨ w.heap.size ≤ k_)) ho5 (by first | exact HK.out.1 | exact (show Kept w _ (fun k_ => P0_ k_) from by repeat (first | (with_reducible first | exact HK.out | apply Kept.alloc | apply Kept.drewN | apply Kept.drew) | exact HK.out)).1) (fun k_ h_ => .inr h_)) (Kd.R_lt (by (with_reducible repeat (first | apply Kd.R_alloc | apply Kd.R_drewN | apply Kd.R_drew)); exact HO0.out))) (below_size (by repeat (first | (with_reducible first | exact HB.out | apply below_alloc | apply pw_below_drewN | apply below_drew1) | exact HB.out)))); have n2_ := Aside0.mk (Kept.below (S := (fun k_ => P0_ k_)) (by repeat (first | (with_reducible first | exact HK.out | apply Kept.alloc | apply Kept.drewN | apply Kept.drew) | exact HK.out)) hb); have n3_ := Aside0.mk (below_step (by repeat (first | (with_reducible first | exact HB.out | apply below_alloc | apply pw_below_drewN | apply below_drew1) | exact HB.out)) hb); clear HO0; clear HK; clear HB; have HO0 := n0_; have HO123 := n1_; have HK := n2_; have HB := n3_; clear n0_ n1_ n2_ n3_; clear hb ho5; obtain ⟨Ao7, co7, eo7⟩ := Kd.R_slice HO123.out; subst eo7) | ((with_reducible refine gate_builtin (b := .append) (xs := #[.tmp 5, .tmp 17]) rfl ?_); at_builtin; refine Kd.R_append_rows (Kd.int .u8) (w0 := w0) w0.heap.size rfl (.tmp 5) (.tmp 17) 22 5 (.int .u8 0) 1 rfl Try.underlying22 info5 rfl (by decide) (by omega) u9000_ l0 y121 _ _ _ (fun k_ => (P0_ k_ ∨ w.heap.size ≤ k_) ∧ some k_ ≠ (.slice Ao7 y121.length co7 : Value).ownBlock) (fun _ => False) rfl rfl ?aO ?aR (fun _ _ h => h) (fun _ h => h.elim) ?aF ?aB ?aS ?aL ?_; (case aR => repeat (first | exact (Kd.R_reads' HO123.out).2.2 | (with_reducible refine Kd.C_alloc ?_ _) | (with_reducible refine Kd.C_drewN ?_ _) | (with_reducible refine Kd.C_drew ?_))); (case aB => exact (by repeat (first | (with_reducible first | exact HB.out | apply below_alloc | apply pw_below_drewN | apply below_drew1) | exact HB.out))); (case aF => exact (fun k_ hk => ⟨(.inr (Nat.le_trans (by first | exact HK.out.1 | exact (show Kept w _ (fun k_ => P0_ k_) from by repeat (first | (with_reducible first | exact HK.out | apply Kept.alloc | apply Kept.drewN | apply Kept.drew) | exact HK.out)).1) hk)), Kd.fresh' (Kd.R_lt (by (with_reducible repeat (first | apply Kd.R_alloc | apply Kd.R_drewN | apply Kd.R_drew)); exact HO123.out)) k_ hk⟩)); (case aO => exact (by (with_reducible repeat (first | apply Kd.R_alloc | apply Kd.R_drewN | apply Kd.R_drew)); exact HO0.out)); (case aS => exact (below_size (by repeat (first | (with_reducible first | exact HB.out | apply below_alloc | apply pw_below_drewN | apply below_drew1) | exact HB.out)))); (case aL => have := LMc3.out; omega); intro v125 w6 ho hb hg hat; rw [← Ny124.out] at ho; have n0_ := Aside0.mk (Kd.R_after (ok := (fun k_ => (P0_ k_ ∨ w.heap.size ≤ k_))) (by (with_reducible repeat (first | apply Kd.R_alloc | apply Kd.R_drewN | apply Kd.R_drew)); exact Kd.R_mono HO123.out (fun _ hk => ⟨hk.1.1, hk.2⟩)) hg hat); have n1_ := Aside0.mk (hb); have n2_ := Aside0.mk (Kept.of_grown (S := (fun k_ => P0_ k_)) hg (by repeat (first | (with_reducible first | exact HK.out | apply Kept.alloc | apply Kept.drewN | apply Kept.drew) | exact HK.out)) (fun k_ e_ => (HO0.out.1 k_ e_).1)); have n3_ := Aside0.mk (ho); clear HO123; clear HB; clear HK; clear HO0; have HO123 := n0_; have HB := n1_; have HK := n2_; have HO126 := n3_; clear n0_ n1_ n2_ n3_; clear ho hb hg hat))
    go_ret
    exact ⟨_, by first | rfl | (simp [errW_none, errW_some] <;> rfl) | (simp [*, errW_none, errW_some] <;> rfl), by (with_reducible repeat (first | apply Kd.R_alloc | apply Kd.R_drewN | apply Kd.R_drew)); exact Kd.R_mono HO126.out (fun _ hk => hk.1), by repeat (first | (with_reducible first | exact HB.out | apply below_alloc | apply pw_below_drewN | apply below_drew1) | exact HB.out), by repeat (first | (with_reducible first | exact HK.out | apply Kept.alloc | apply Kept.drewN | apply Kept.drew) | exact HK.out)⟩
  · rw [if_neg c3] at H
    exact absurd H (by simp)

/-! ### sum_Of: function 66 -/
mutual
def sum_Of.l0 : Nat → Int → List Int → Int → Int → Option (Int)
  | 0, _, _, _, _ => none
  | k + 1, x3, x7, x8, x9 => if x9 < x8 then (if 0 ≤ x9 then (if x9 < (x7.length : Int) then (sum_Of.l1 k (Go.bits .xor .u32 x3 ((rd x7 x9) % 4294967296)) x7 x8 x9 0) else (none)) else (none)) else (some (Go.bits .xor .u32 4294967295 x3))
def sum_Of.l1 : Nat → Int → List Int → Int → Int → Int → Option (Int)
  | 0, _, _, _, _, _ => none
  | k + 1, x3, x7, x8, x9, x17 => if x17 < 8 then (sum_Of.l1 k (Go.bits .xor .u32 (x3 / 2) ((2197175160 * (Go.bits .and .u32 x3 1)) % 4294967296)) x7 x8 x9 (wrap64 (x17 + 1))) else (sum_Of.l0 k x3 x7 x8 (wrap64 (x9 + 1)))
end
def sum_Of.f (k : Nat) (l0 : List Int) : Option (Int) := sum_Of.l0 k 4294967295 l0 (l0.length : Int) 0
theorem sum_Of.mono_l : ∀ k, (∀ y0 y1 y2 y3, LeO (sum_Of.l0 k y0 y1 y2 y3) (sum_Of.l0 (k + 1) y0 y1 y2 y3)) ∧ (∀ y0 y1 y2 y3 y4, LeO (sum_Of.l1 k y0 y1 y2 y3 y4) (sum_Of.l1 (k + 1) y0 y1 y2 y3 y4))
  | 0 => ⟨fun _ _ _ _ r h => by simp [sum_Of.l0] at h, fun _ _ _ _ _ r h => by simp [sum_Of.l1] at h⟩
  | k + 1 => by
    obtain ⟨ih0, ih1⟩ := sum_Of.mono_l k
    refine ⟨?_, ?_⟩
    · intro y0 y1 y2 y3
      unfold sum_Of.l0
      repeat' first
      | (with_reducible exact ih0 _ _ _ _)
      | (with_reducible exact ih1 _ _ _ _ _)
      | (with_reducible exact LeO.refl _)
      | (with_reducible exact LeO.none _)
      | (with_reducible refine LeO.ite ?_ ?_)
      | (with_reducible refine LeO.bind ?_ (fun _ => ?_))
      | exact ih0 _ _ _ _
      | exact ih1 _ _ _ _ _
      | exact LeO.none _
      | refine LeO.ite ?_ ?_
      | refine LeO.bind ?_ (fun _ => ?_)
    · intro y0 y1 y2 y3 y4
      unfold sum_Of.l1
      repeat' first
      | (with_reducible exact ih0 _ _ _ _)
      | (with_reducible exact ih1 _ _ _ _ _)
      | (with_reducible exact LeO.refl _)
      | (with_reducible exact LeO.none _)
      | (with_reducible refine LeO.ite ?_ ?_)
      | (with_reducible refine LeO.bind ?_ (fun _ => ?_))
      | exact ih0 _ _ _ _
      | exact ih1 _ _ _ _ _
      | exact LeO.none _
      | refine LeO.ite ?_ ?_
      | refine LeO.bind ?_ (fun _ => ?_)
theorem sum_Of.mono : ∀ a0 k, LeO (sum_Of.f k a0) (sum_Of.f (k + 1) a0) := by
  intro a0 k
  obtain ⟨ih0, ih1⟩ := sum_Of.mono_l k
  unfold sum_Of.f
  repeat' first
      | (with_reducible exact ih0 _ _ _ _)
      | (with_reducible exact ih1 _ _ _ _ _)
      | (with_reducible exact LeO.refl _)
      | (with_reducible exact LeO.none _)
      | (with_reducible refine LeO.ite ?_ ?_)
      | (with_reducible refine LeO.bind ?_ (fun _ => ?_))
      | exact ih0 _ _ _ _
      | exact ih1 _ _ _ _ _
      | exact LeO.none _
      | refine LeO.ite ?_ ?_
      | refine LeO.bind ?_ (fun _ => ?_)
set_option maxHeartbeats 8000000 in
set_option maxRecDepth 100000 in
theorem sum_Of.calls (k : Nat) (A0 : Option Addr) (c0 : Nat) (l0 : List Int) (r : Int) (w : World) (hr0 : Kd.C (Kd.int .u8) w A0 l0.length l0) (hc0 : l0.length ≤ c0) (h : sum_Of.f k l0 = some r) :
    Calls Try.prog 66 #[.slice A0 l0.length c0] w fun e w' => e = .returned (.int .u32 r) ∧ Drawn0 w w' := by
  have HR0 := Aside0.mk hr0
  have HC0 := Aside0.mk hc0
  clear hr0 hc0
  have H : (sum_Of.l0 k 4294967295 l0 (l0.length : Int) 0) = some r := h
  clear h
  have H' := Aside0.mk H
  clear H
  go_enter Try.func66, Try.ntmps66
  go_wp2
  go_loopg [3, 9] k (fun kq v3 v9 w' => ∃ (x3_1 : Int) (x9_1 : Int), v3 = .int .u32 x3_1 ∧ v9 = .int .i64 x9_1 ∧ Aside0 (sum_Of.l0 kq x3_1 l0 (l0.length : Int) x9_1 = some r) ∧ Aside0 (kq ≤ k) ∧ Drawn0 w w')
  case atStart => exact ⟨(4294967295), (0), (by first | rfl | (simp; done) | (simp [*]; done)), (by first | rfl | (simp; done) | (simp [*]; done)), H', ⟨Nat.le_refl _⟩, by repeat (first | exact Drawn0.refl _ | apply Drawn0.step)⟩
  case round =>
    clear H'
    obtain ⟨x3_1, x9_1, rfl, rfl, HA, HK1, ⟨m1, rfl⟩⟩ := hrel
    cases gk with
    | zero => exact absurd HA.out (by simp [sum_Of.l0])
    | succ k1 =>
      have H := HA.out
      clear HA
      simp only [sum_Of.l0] at H
      by_cases c2 : x9_1 < (l0.length : Int)
      · rw [if_pos c2] at H
        have c2b0 : decide (x9_1 < (l0.length : Int)) = true := decide_eq_true c2
        clear c2
        by_cases c3 : 0 ≤ x9_1
        · rw [if_pos c3] at H
          have c3b0 : decide (0 ≤ x9_1) = true := decide_eq_true c3
          clear c3
          by_cases c4 : x9_1 < (l0.length : Int)
          · rw [if_pos c4] at H
            have c4b0 : decide (x9_1 < (l0.length : Int)) = true := decide_eq_true c4
            clear c4
            have H' := Aside0.mk H
            clear H
            have p127 : 0 ≤ (x9_1 : Int) := of_decide_eq_true (by first | (with_reducible assumption) | assumption)
            have q127 : x9_1 < (l0.length : Int) := of_decide_eq_true (by first | (with_reducible assumption) | assumption)
            obtain ⟨ad127, e127, hx127_0⟩ := Kd.at_int HR0.out x9_1 p127 q127
            cases e127
            replace p127 := eq_true p127
            replace q127 := eq_true q127
            go_wp2
            go_loopg [3, 17] k1 (fun kq v3 v17 w' => ∃ (x3_2 : Int) (x17_2 : Int), v3 = .int .u32 x3_2 ∧ v17 = .int .i64 x17_2 ∧ Aside0 (sum_Of.l1 kq x3_2 l0 (l0.length : Int) x9_1 x17_2 = some r) ∧ Aside0 (kq ≤ k1) ∧ Drawn0 w w')
            case atStart => exact ⟨(Go.bits .xor .u32 x3_1 ((rd l0 x9_1) % 4294967296)), (0), (by first | rfl | (simp; done) | (simp [*]; done)), (by first | rfl | (simp; done) | (simp [*]; done)), H', ⟨Nat.le_refl _⟩, by repeat (first | exact Drawn0.refl _ | apply Drawn0.step)⟩
            case round =>
              clear H'
              try clear p1
              try clear q1
              try clear hx1
              try clear c2
              try clear c2b0
              try clear p2
              try clear c3
              try clear c3b0
              try clear c4
              try clear c4b0
              try clear hx127_0
              try clear p127
              try clear q127
              obtain ⟨x3_2, x17_2, rfl, rfl, HA, HK2, ⟨m2, rfl⟩⟩ := hrel
              cases gk with
              | zero => exact absurd HA.out (by simp [sum_Of.l1])
              | succ k2 =>
                have H := HA.out
                clear HA
                simp only [sum_Of.l1] at H
                by_cases c5 : x17_2 < 8
                · rw [if_pos c5] at H
                  have c5b0 : decide (x17_2 < 8) = true := decide_eq_true c5
                  clear c5
                  have H' := Aside0.mk H
                  clear H
                  go_wp2
                  go_roundg k2
                  case measure => have := HK1.out; have := HK2.out; omega
                  case rel => exact ⟨(Go.bits .xor .u32 (x3_2 / 2) ((2197175160 * (Go.bits .and .u32 x3_2 1)) % 4294967296)), (wrap64 (x17_2 + 1)), (by first | rfl | (simp; done) | (simp [*]; done)), (by first | rfl | (simp; done) | (simp [*]; done)), H', ⟨by have := HK1.out; have := HK2.out; omega⟩, by repeat (first | exact Drawn0.refl _ | apply Drawn0.step)⟩
                · rw [if_neg c5] at H
                  have c5b0 : decide (x17_2 < 8) = false := decide_eq_false c5
                  clear c5
                  have H' := Aside0.mk H
                  clear H
                  go_wp2
                  go_roundg k2
                  case measure => have := HK1.out; have := HK2.out; omega
                  case rel => exact ⟨(x3_2), (wrap64 (x9_1 + 1)), (by first | rfl | (simp; done) | (simp [*]; done)), (by first | rfl | (simp; done) | (simp [*]; done)), H', ⟨by have := HK1.out; have := HK2.out; omega⟩, by repeat (first | exact Drawn0.refl _ | apply Drawn0.step)⟩
          · rw [if_neg c4] at H
            exact absurd H (by simp)
        · rw [if_neg c3] at H
          exact absurd H (by simp)
      · rw [if_neg c2] at H
        have c2b0 : decide (x9_1 < (l0.length : Int)) = false := decide_eq_false c2
        clear c2
        obtain rfl := Option.some.inj H
        go_wp2
        go_ret
        exact ⟨by first | rfl | (simp; done) | (simp [*]; done), by repeat (first | exact Drawn0.refl _ | apply Drawn0.step)⟩

/-! ### region_first: function 47 -/
def region_first.f (k : Nat) (a0 : Int) (l1 : List Int) : Option (List Int) := (region_Put.f ([] : List Int) ((a0) % 4294967296)).bind fun t128 => ((region_Put.f t128 (((l1.length : Int)) % 4294967296)).bind fun t131 => ((sum_Of.f k l1).bind fun t134 => ((region_Put.f t131 t134).bind fun t135 => ((sum_Of.f k t135).bind fun t138 => ((region_Put.f t135 t138).bind fun t139 => (some t139))))))
theorem region_first.mono : ∀ a0 a1 k, LeO (region_first.f k a0 a1) (region_first.f (k + 1) a0 a1) := by
  intro a0 a1 k
  unfold region_first.f
  repeat' first
      | (with_reducible exact sum_Of.mono _ _)
      | (with_reducible exact LeO.refl _)
      | (with_reducible exact LeO.none _)
      | (with_reducible refine LeO.ite ?_ ?_)
      | (with_reducible refine LeO.bind ?_ (fun _ => ?_))
      | exact sum_Of.mono _ _
      | exact LeO.none _
      | refine LeO.ite ?_ ?_
      | refine LeO.bind ?_ (fun _ => ?_)
set_option maxHeartbeats 8000000 in
set_option maxRecDepth 100000 in
theorem region_first.calls (k : Nat) (a0 : Int) (A1 : Option Addr) (c1 : Nat) (l1 : List Int) (r : List Int) (w : World) (hr1 : Kd.C (Kd.int .u8) w A1 l1.length l1) (hc1 : l1.length ≤ c1) (h : region_first.f k a0 l1 = some r) :
    Calls Try.prog 47 #[.int .i64 a0, .slice A1 l1.length c1] w fun e w' => ∃ v0_ : Value, e = .returned (v0_) ∧ Kd.R (Kd.int .u8) 5 w' w.heap.size (fun _ => True) v0_ r ∧ Below w.heap.size w w' := by
  have HR1 := Aside0.mk hr1
  have HC1 := Aside0.mk hc1
  clear hr1 hc1
  have HB := Aside0.mk (Below.refl w.heap.size w)
  have H : ((region_Put.f ([] : List Int) ((a0) % 4294967296)).bind fun t128 => ((region_Put.f t128 (((l1.length : Int)) % 4294967296)).bind fun t131 => ((sum_Of.f k l1).bind fun t134 => ((region_Put.f t131 t134).bind fun t135 => ((sum_Of.f k t135).bind fun t138 => ((region_Put.f t135 t138).bind fun t139 => (some t139))))))) = some r := h
  clear h
  replace H := Option.bind_eq_some_iff.mp H
  obtain ⟨t128, A30, H⟩ := H
  replace H : ((region_Put.f t128 (((l1.length : Int)) % 4294967296)).bind fun t131 => ((sum_Of.f k l1).bind fun t134 => ((region_Put.f t131 t134).bind fun t135 => ((sum_Of.f k t135).bind fun t138 => ((region_Put.f t135 t138).bind fun t139 => (some t139)))))) = some r := H
  have A3 := Aside0.mk A30
  clear A30
  replace H := Option.bind_eq_some_iff.mp H
  obtain ⟨t131, A40, H⟩ := H
  replace H : ((sum_Of.f k l1).bind fun t134 => ((region_Put.f t131 t134).bind fun t135 => ((sum_Of.f k t135).bind fun t138 => ((region_Put.f t135 t138).bind fun t139 => (some t139))))) = some r := H
  have A4 := Aside0.mk A40
  clear A40
  replace H := Option.bind_eq_some_iff.mp H
  obtain ⟨t134, A50, H⟩ := H
  replace H : ((region_Put.f t131 t134).bind fun t135 => ((sum_Of.f k t135).bind fun t138 => ((region_Put.f t135 t138).bind fun t139 => (some t139)))) = some r := H
  have A5 := Aside0.mk A50
  clear A50
  replace H := Option.bind_eq_some_iff.mp H
  obtain ⟨t135, A60, H⟩ := H
  replace H : ((sum_Of.f k t135).bind fun t138 => ((region_Put.f t135 t138).bind fun t139 => (some t139))) = some r := H
  have A6 := Aside0.mk A60
  clear A60
  replace H := Option.bind_eq_some_iff.mp H
  obtain ⟨t138, A70, H⟩ := H
  replace H : ((region_Put.f t135 t138).bind fun t139 => (some t139)) = some r := H
  have A7 := Aside0.mk A70
  clear A70
  replace H := Option.bind_eq_some_iff.mp H
  obtain ⟨t139, A80, H⟩ := H
  replace H : (some t139) = some r := H
  have A8 := Aside0.mk A80
  clear A80
  obtain rfl := Option.some.inj H
  go_enter Try.func47, Try.ntmps47
  go_wp2_with (first | ((with_reducible refine gate_callee (f := 65) rfl ?_); refine goesL_ (some 8) rfl rfl Try.func65 (by kernel_rfl) rfl #[.slice none 0 0, .int .u32 ((a0) % 4294967296)] rfl (by (try simp only [List.map_toArray, List.map_cons, List.map_nil]); first | done | rfl | (simp only [List.length_drop, List.length_take]; rfl)) ?_; (refine (region_Put.calls (fun k_ => some k_ = (.slice none 0 0 : Value).ownBlock) (.slice none 0 0) ([] : List Int) ((a0) % 4294967296) t128 w _ ?side1 ?side2 A3.out).mono ?_); (case side1 => repeat (first | (with_reducible first | exact HB.out | apply below_alloc | apply pw_below_drewN | apply below_drew1) | exact HB.out)); (case side2 => exact Kd.R_nil _ _ _ _ _); rintro e w9 ⟨v129, rfl, ho0, hb, hkp⟩; refine ⟨_, rfl, ?_⟩; have n0_ := Aside0.mk (Kd.R_mono (ok' := fun k_ => True) ho0 (fun k_ hk_ => trivial)); have n1_ := Aside0.mk (hb); clear HB; have HO130 := n0_; have HB := n1_; clear n0_ n1_; (try clear hb); (try clear hkp); (try clear ho0); obtain ⟨Ao10, co10, eo10⟩ := Kd.R_slice HO130.out; subst eo10) | ((with_reducible refine gate_callee (f := 65) rfl ?_); refine goesL_ (some 12) rfl rfl Try.func65 (by kernel_rfl) rfl #[.slice Ao10 t128.length co10, .int .u32 (((l1.length : Int)) % 4294967296)] rfl (by (try simp only [List.map_toArray, List.map_cons, List.map_nil]); first | done | rfl | (simp only [List.length_drop, List.length_take]; rfl)) ?_; (with_reducible refine (region_Put.calls (fun k_ => some k_ = (.slice Ao10 t128.length co10 : Value).ownBlock) (.slice Ao10 t128.length co10) t128 (((l1.length : Int)) % 4294967296) t131 w _ ?side1 ?side2 A4.out).mono ?_); (case side1 => repeat (first | (with_reducible first | exact HB.out | apply below_alloc | apply pw_below_drewN | apply below_drew1) | exact HB.out)); (case side2 => exact Kd.R_tight rfl HO130.out); rintro e w11 ⟨v132, rfl, ho0, hb, hkp⟩; refine ⟨_, rfl, ?_⟩; have n0_ := Aside0.mk (Kd.R_mono (ok' := fun k_ => True) ho0 (fun k_ hk_ => trivial)); have n1_ := Aside0.mk (hb); clear HB; clear HO130; have HO133 := n0_; have HB := n1_; clear n0_ n1_; (try clear hb); (try clear hkp); (try clear ho0)) | ((with_reducible refine gate_callee (f := 66) rfl ?_); refine goesL_ (some 14) rfl rfl Try.func66 (by kernel_rfl) rfl #[.slice A1 l1.length c1] rfl (by (try simp only [List.map_toArray, List.map_cons, List.map_nil]); first | done | rfl | (simp only [List.length_drop, List.length_take]; rfl)) ?_; (with_reducible refine (sum_Of.calls k _ _ l1 t134 _ ?side1 ?side2 A5.out).mono ?_); (case side1 => repeat (first | exact (Kd.C_below HR1.out HB.out) | (with_reducible refine Kd.C_alloc ?_ _) | (with_reducible refine Kd.C_drewN ?_ _) | (with_reducible refine Kd.C_drew ?_))); (case side2 => exact HC1.out); rintro e w' ⟨rfl, ⟨nd, rfl⟩⟩; refine ⟨_, rfl, ?_⟩; obtain ⟨Ao12, co12, eo12⟩ := Kd.R_slice HO133.out; subst eo12) | ((with_reducible refine gate_callee (f := 65) rfl ?_); refine goesL_ (some 15) rfl rfl Try.func65 (by kernel_rfl) rfl #[.slice Ao12 t131.length co12, .int .u32 t134] rfl (by (try simp only [List.map_toArray, List.map_cons, List.map_nil]); first | done | rfl | (simp only [List.length_drop, List.length_take]; rfl)) ?_; (with_reducible refine (region_Put.calls (fun k_ => some k_ = (.slice Ao12 t131.length co12 : Value).ownBlock) (.slice Ao12 t131.length co12) t131 t134 t135 w _ ?side1 ?side2 A6.out).mono ?_); (case side1 => repeat (first | (with_reducible first | exact HB.out | apply below_alloc | apply pw_below_drewN | apply below_drew1) | exact HB.out)); (case side2 => exact Kd.R_tight rfl HO133.out); rintro e w13 ⟨v136, rfl, ho0, hb, hkp⟩; refine ⟨_, rfl, ?_⟩; have n0_ := Aside0.mk (Kd.R_mono (ok' := fun k_ => True) ho0 (fun k_ hk_ => trivial)); have n1_ := Aside0.mk (hb); clear HB; clear HO133; have HO137 := n0_; have HB := n1_; clear n0_ n1_; (try clear hb); (try clear hkp); (try clear ho0); obtain ⟨Ao14, co14, eo14⟩ := Kd.R_slice HO137.out; subst eo14) | ((with_reducible refine gate_callee (f := 66) rfl ?_); refine goesL_ (some 18) rfl rfl Try.func66 (by kernel_rfl) rfl #[.slice Ao14 t135.length co14] rfl (by (try simp only [List.map_toArray, List.map_cons, List.map_nil]); first | done | rfl | (simp only [List.length_drop, List.length_take]; rfl)) ?_; (with_reducible refine (sum_Of.calls k _ _ t135 t138 _ ?side1 ?side2 A7.out).mono ?_); (case side1 => repeat (first | exact (Kd.R_reads' HO137.out).2.2 | (with_reducible refine Kd.C_alloc ?_ _) | (with_reducible refine Kd.C_drewN ?_ _) | (with_reducible refine Kd.C_drew ?_))); (case side2 => exact (Kd.R_reads' HO137.out).2.1); rintro e w' ⟨rfl, ⟨nd, rfl⟩⟩; refine ⟨_, rfl, ?_⟩) | ((with_reducible refine gate_callee (f := 65) rfl ?_); refine goesL_ (some 19) rfl rfl Try.func65 (by kernel_rfl) rfl #[.slice Ao14 t135.length co14, .int .u32 t138] rfl (by (try simp only [List.map_toArray, List.map_cons, List.map_nil]); first | done | rfl | (simp only [List.length_drop, List.length_take]; rfl)) ?_; (with_reducible refine (region_Put.calls (fun k_ => some k_ = (.slice Ao14 t135.length co14 : Value).ownBlock) (.slice Ao14 t135.length co14) t135 t138 t139 w _ ?side1 ?side2 A8.out).mono ?_); (case side1 => repeat (first | (with_reducible first | exact HB.out | apply below_alloc | apply pw_below_drewN | apply below_drew1) | exact HB.out)); (case side2 => exact Kd.R_tight rfl HO137.out); rintro e w15 ⟨v140, rfl, ho0, hb, hkp⟩; refine ⟨_, rfl, ?_⟩; have n0_ := Aside0.mk (Kd.R_mono (ok' := fun k_ => True) ho0 (fun k_ hk_ => trivial)); have n1_ := Aside0.mk (hb); clear HB; clear HO137; have HO141 := n0_; have HB := n1_; clear n0_ n1_; (try clear hb); (try clear hkp); (try clear ho0)))
  go_ret
  exact ⟨_, by first | rfl | (simp [errW_none, errW_some] <;> rfl) | (simp [*, errW_none, errW_some] <;> rfl), by (with_reducible repeat (first | apply Kd.R_alloc | apply Kd.R_drewN | apply Kd.R_drew)); exact HO141.out, by repeat (first | (with_reducible first | exact HB.out | apply below_alloc | apply pw_below_drewN | apply below_drew1) | exact HB.out)⟩

/-! ### region_Get: function 67 -/
-- FN rounds=0 making=0
-- IMPORT Derived.Test.YtpojfebecmjloaaHelp
open Go.Proofs.Ytpojfebecmjloaa.Help
def getS : List Int → Int → Int
  | [], v => v
  | b :: l, v => getS l (Go.bits .or .u32 ((v * 256) % 4294967296) (b % 4294967296))
def region_Get.f (l0 : List Int) : Option Int := some (getS (l0.take 4) 0)
set_option maxHeartbeats 2000000 in
set_option maxRecDepth 100000 in
theorem region_Get.calls (A0 : Option Addr) (c0 : Nat) (l0 : List Int) (r : Int) (w : World) (hr0 : Kd.C (Kd.int .u8) w A0 l0.length l0) (hc0 : l0.length ≤ c0) (h : region_Get.f l0 = some r) :
    Calls Try.prog 67 #[.slice A0 l0.length c0] w fun e w' => e = .returned (.int .u32 r) ∧ Drawn0 w w' := by
  obtain ⟨i0, hi0, _⟩ := info_parts info5
  have HM := Aside0.mk (Kd.C_max hr0)
  have HR := Aside0.mk hr0
  have HG := Aside0.mk (show getS (l0.take 4) 0 = r from Option.some.inj h)
  clear hr0 h
  obtain ⟨m, hm, hm4, hml, hmt, hcut⟩ : ∃ m : Nat, (m : Int) = (if 4 < (l0.length : Int) then 4 else (l0.length : Int)) ∧ m ≤ 4 ∧ m ≤ l0.length ∧ l0.take 4 = l0.take m ∧
      ∀ W : World, (Instr.slice 22 (.slice A0 l0.length c0) none (some (.int .i64 (m : Int))) none).run Try.prog W = .ok (.slice A0 m c0) W := by
    by_cases h4 : 4 < (l0.length : Int)
    · refine ⟨4, by rw [if_pos h4]; rfl, by omega, by omega, rfl, ?_⟩
      have := cut_to 22 5 .i64 (P := Try.prog) Try.underlying22 hi0 A0 l0.length c0 (4 : Int) (by omega) (by omega) hc0
      exact this
    · refine ⟨l0.length, by rw [if_neg h4], by omega, by omega, ?_, ?_⟩
      · rw [List.take_of_length_le (by omega), List.take_of_length_le (by omega)]
      · have := cut_to 22 5 .i64 (P := Try.prog) Try.underlying22 hi0 A0 l0.length c0 (l0.length : Int) (by omega) (by omega) hc0
        rw [Int.toNat_natCast] at this
        exact this
  have HC := Aside0.mk hc0
  have HM4 := Aside0.mk hm4
  have HML := Aside0.mk hml
  rw [hmt] at HG
  have HLEN := Aside0.mk (show (l0.take m).length = m by rw [List.length_take]; omega)
  have hmin : (if 4 < (l0.length : Int) then (4 : Int) else (l0.length : Int)) = (m : Int) := hm.symm
  clear hc0 hm4 hml hmt hm
  go_enter Try.func67, Try.ntmps67
  go_wp2_with fail
  go_loopg [3, 12] (m + 1) (fun kq v3 v12 wr => ∃ (v x : Int), v3 = .int .u32 v ∧ v12 = .int .i64 x ∧ Aside0 (0 ≤ x ∧ x + kq = m + 1 ∧ getS ((l0.take m).drop x.toNat) v = r) ∧ Drawn0 w wr)
  case atStart => exact ⟨0, 0, rfl, rfl, ⟨by simp, by simp, HG.out⟩, Drawn0.refl _⟩
  case round =>
    clear HG
    obtain ⟨v, x, rfl, rfl, HF, ⟨nd, rfl⟩⟩ := hrel
    by_cases hlt : x < (m : Int)
    · have q1 := hlt
      have p1 := HF.out.1
      have c4b0 : decide (x < (m : Int)) = true := decide_eq_true hlt
      have HL := Aside0.mk hlt
      have ql : x < (l0.length : Int) := by have := HML.out; omega
      obtain ⟨ad, e, h0⟩ := Kd.at_int (Kd.C_drewN HR.out nd) x p1 ql
      cases e
      have HD := Aside0.mk (show (l0.take m).drop x.toNat = rd l0 x :: (l0.take m).drop (x + 1).toNat by
        rw [drop_rd _ x p1 (by rw [HLEN.out]; exact q1), rd_take l0 m x p1 q1])
      have HF2 := Aside0.mk (show getS ((l0.take m).drop (x + 1).toNat) (Go.bits .or .u32 ((v * 256) % 4294967296) ((rd l0 x) % 4294967296)) = r by
        rw [← HF.out.2.2, HD.out]; rfl)
      clear hlt ql hcut hmin
      replace p1 := eq_true p1
      replace q1 := eq_true q1
      cases gk with
      | zero => exact absurd HF.out.2.1 (by have := HL.out; omega)
      | succ k1 =>
        go_wp2
        go_roundg k1
        case measure => omega
        case rel =>
          refine ⟨_, x + 1, rfl, (by have hw : wrap64 (x + 1) = x + 1 := (by have := HM4.out; have := HL.out; have := HF.out.1; unfold wrap64; omega); first | rfl | (simp [hw]; done)), ⟨by have := HF.out.1; omega, by have := HF.out.2.1; omega, HF2.out⟩, ⟨nd, rfl⟩⟩
    · have c4b0 : decide (x < (m : Int)) = false := decide_eq_false hlt
      have HE := Aside0.mk (show v = r by
        rw [← HF.out.2.2, List.drop_of_length_le (by rw [HLEN.out]; omega)]; rfl)
      clear hlt hcut hmin
      go_wp2
      go_ret
      exact ⟨by rw [← HE.out]; rfl, ⟨nd, rfl⟩⟩


end Go.Proofs.Ytpojfebecmjloaa.PWalSupers
