-- Lean text by a program of this repo (wip/tools/printx.py), out of Lean's own print of the translation
import Derived.Test.YtjdebhkdbdbepaaOwn
import Derived.Test.YtjdebhkdbdbepaaInts
import Derived.Test.YtjdebhkdbdbepaaMid
import Derived.Test.YtjdebhkdbdbepaaHelp
import Derived.ArgAppend
import Derived.Test.YtjdebhkdbdbepaaPExportGonex0
import Derived.Test.YtjdebhkdbdbepaaPExportGonex3
import Derived.Test.YtjdebhkdbdbepaaPExportGonex4
namespace Go.Proofs.Ytjdebhkdbdbepaa.PExportGone
open Go.RowKit Go.Proofs.YtjdebhkdbdbepaaW.PrintWords Go.Proofs.YtjdebhkdbdbepaaW.PrintLast Go.Proofs.YtjdebhkdbdbepaaW.PrintMore
attribute [local go_sem] max2_int min2_int max_two min_two max_three min_three max_four min_four   -- for this text's walks alone
set_option linter.unusedVariables false
set_option linter.unusedSimpArgs false

/-! ### export_Export: function 10 -/
-- FN rounds=0 making=1
-- IMPORT Derived.ArgAppend
-- IMPORT Derived.Test.YtjdebhkdbdbepaaHelp
-- IMPORT Derived.Test.YtjdebhkdbdbepaaMid
-- IMPORT Derived.Test.YtjdebhkdbdbepaaInts
-- IMPORT Derived.Test.YtjdebhkdbdbepaaOwn
open Go.Proofs.Ytjdebhkdbdbepaa.Ints
open Go.Proofs.Ytjdebhkdbdbepaa.Own
open Go.Proofs.Ytjdebhkdbdbepaa.Help
open Go.Proofs.Ytjdebhkdbdbepaa.Own in
/-- A segment of a path, of the call's own. -/
def kc69 : Kd S69 := Kd.iso (Kd.pair Kd.bool (cut 3 .i64)) (fun x : S69 => (x.f0, x.f1))
theorem R_drewO {α : Type} {d : Kd α} {e : Nat} {w : World} {base : Nat} {ok : Nat → Prop} {v : Value} {xs : List α} (h : d.R e w base ok v xs) : d.R e w.drew base ok v xs := Kd.R_below h (below_drew (Below.refl _ _))
theorem kc_C {w : World} {A : Option Addr} {n : Nat} {xs : List S69} (h : kc69.C w A n xs) : k69.C w A n xs := h
set_option maxHeartbeats 4000000 in
set_option maxRecDepth 100000 in
theorem infoSeg : (Try.prog.info? 69).map (fun i => (i.zero, i.size, i.bytes)) = some (some (.agg #[.bool false, .slice none 0 0]), 2, 32) := by kernel_rfl
set_option maxHeartbeats 4000000 in
set_option maxRecDepth 100000 in
theorem clip_int (A : Option Addr) (n c : Nat) (w : World) (hn : n ≤ c) :
    Calls Try.prog 61 #[.slice A n c] w fun e w' => e = .returned (.slice A n n) ∧ Below w.heap.size w w' := by
  have HB := Aside0.mk (Below.refl w.heap.size w)
  go_enter Try.func61, Try.ntmps61
  go_wp2
  go_ret
  exact ⟨rfl, by first | exact HB.out | exact pw_below_drewN HB.out _⟩
set_option maxHeartbeats 4000000 in
set_option maxRecDepth 100000 in
theorem clip_seg (A : Option Addr) (n c : Nat) (w : World) (hn : n ≤ c) :
    Calls Try.prog 63 #[.slice A n c] w fun e w' => e = .returned (.slice A n n) ∧ Below w.heap.size w w' := by
  have HB := Aside0.mk (Below.refl w.heap.size w)
  go_enter Try.func63, Try.ntmps63
  go_wp2
  go_ret
  exact ⟨rfl, by first | exact HB.out | exact pw_below_drewN HB.out _⟩
set_option maxHeartbeats 4000000 in
set_option maxRecDepth 100000 in
theorem clip_u32 (A : Option Addr) (n c : Nat) (w : World) (hn : n ≤ c) :
    Calls Try.prog 42 #[.slice A n c] w fun e w' => e = .returned (.slice A n n) ∧ Below w.heap.size w w' := by
  have HB := Aside0.mk (Below.refl w.heap.size w)
  go_enter Try.func42, Try.ntmps42
  go_wp2
  go_ret
  exact ⟨rfl, by first | exact HB.out | exact pw_below_drewN HB.out _⟩
set_option maxHeartbeats 4000000 in
set_option maxRecDepth 100000 in
theorem clip_raw (A : Option Addr) (n c : Nat) (w : World) (hn : n ≤ c) :
    Calls Try.prog 45 #[.slice A n c] w fun e w' => e = .returned (.slice A n n) ∧ Below w.heap.size w w' := by
  have HB := Aside0.mk (Below.refl w.heap.size w)
  go_enter Try.func45, Try.ntmps45
  go_wp2
  go_ret
  exact ⟨rfl, by first | exact HB.out | exact pw_below_drewN HB.out _⟩
set_option maxHeartbeats 4000000 in
set_option maxRecDepth 100000 in
theorem path_own (A1 : Option Addr) (c1 : Nat) (l1 : List S69) (w : World) (hr1 : Kd.C k69 w A1 l1.length l1) (hc1 : l1.length ≤ c1) (h4 : l1.length < 4000) (hd : ∀ y ∈ l1, slices_Clone_int_int.f y.f1 = some y.f1) :
    Calls Try.prog 41 #[.slice A1 l1.length c1] w fun e w' => ∃ B d d', e = .returned (.slice B l1.length d) ∧ l1.length ≤ d ∧ Kd.R kc69 69 w' w.heap.size (fun k => w.heap.size ≤ k) (.slice B l1.length d') l1 ∧ Below w.heap.size w w' := by
  have HR1 := Aside0.mk hr1
  have HC := Aside0.mk hc1
  have H4 := Aside0.mk h4
  have HD := Aside0.mk hd
  have hu69 := Try.underlying69
  have HB := Aside0.mk (Below.refl w.heap.size w)
  clear hr1 hc1 h4 hd
  go_enter Try.func41, Try.ntmps41
  go_wp2
  go_loopg [3, 8] (l1.length + 1) (fun kq v3 v8 w' => ∃ x : Nat, v8 = .int .i64 (x : Int) ∧ Aside0 (x + kq = l1.length + 1 ∧ x ≤ l1.length) ∧ Aside0 (Kd.R kc69 69 w' w.heap.size (fun k => w.heap.size ≤ k) v3 (l1.take x)) ∧ Aside0 (Below w.heap.size w w'))
  case atStart => exact ⟨0, rfl, ⟨by omega, by omega⟩, ⟨Kd.R_nil _ _ _ _ _⟩, by first | exact HB | exact ⟨pw_below_drewN HB.out _⟩⟩
  case round =>
    obtain ⟨x, rfl, HM, HN, HBL⟩ := hrel
    obtain ⟨k1, rfl⟩ : ∃ k1, gk = k1 + 1 := ⟨gk - 1, by have := HM.out; omega⟩
    by_cases hlt : x < l1.length
    · have q0 : 0 ≤ ((x : Nat) : Int) := by omega
      have q1 : ((x : Nat) : Int) < (l1.length : Int) := by omega
      have c4b0 : decide (((x : Nat) : Int) < (l1.length : Int)) = true := decide_eq_true q1
      have c4b1 : decide (x < l1.length) = true := decide_eq_true hlt
      obtain ⟨ad, AD, cD, e, hx0, hx1, lD, gD⟩ := at_T69 (Kd.C_below HR1.out HBL.out) ((x : Nat) : Int) q0 q1
      cases e
      simp only [Int.toNat_natCast] at hx0 hx1
      have hR : rd_T69 l1 ((x : Nat) : Int) = l1[x] := by
        unfold rd_T69
        rw [List.getD_eq_getElem?_getD, Int.toNat_natCast, List.getElem?_eq_getElem hlt]
        rfl
      have HTK := Aside0.mk (show l1.take (x + 1) = l1.take x ++ [l1[x]] from List.take_succ_eq_append_getElem hlt)
      have HDD := Aside0.mk (HD.out l1[x] (List.getElem_mem hlt))
      have HQ := Aside0.mk hlt
      rw [hR] at hx0 hx1 lD gD
      have HLD := Aside0.mk lD
      have HGD := Aside0.mk gD
      clear hR lD gD
      generalize l1[x] = R6 at hx0 hx1 HTK HDD HLD HGD
      clear hlt
      replace q0 := eq_true q0
      replace q1 := eq_true q1
      go_upto_region 5 with (first | ((with_reducible refine gate_dst (N := 5) rfl ?_); refine box_event ?hg (N := 5) ?hd (cs := #[.bool false, .slice none 0 0]) (t := 69) ?hr ?_; (case hd => rfl); (case hg => rfl); (case hr => first | (go_simp; done) | (go_simp; rfl)); intro g5 hg w8 hbox hb; have HB8 := Aside0.mk hb; have BK5 := Aside0.mk hbox; have GE5 := Aside0.mk (show wr.heap.size ≤ g5 from by rw [hg]; exact Nat.le_refl _); have hz0 := (show w8.cell? ⟨g5, 0, none⟩ = some (.bool false) from (blk_cell hbox 0).trans rfl); have hf0 := blk_frozen hbox 0; have hz1 := (show w8.cell? ⟨g5, 1, none⟩ = some (.slice none 0 0) from (blk_cell hbox 1).trans rfl); have hf1 := blk_frozen hbox 1; replace hx0 := (hb.cell (World.block_lt_of_cell? _ _ hx0)).trans hx0; replace hx1 := (hb.cell (World.block_lt_of_cell? _ _ hx1)).trans hx1; clear hbox hb hg))
      have BK5f := Aside0.mk (show ((w8.setCell ⟨g5, 0, none⟩ (.bool R6.f0)).setCell ⟨g5, 1, none⟩ (.slice AD R6.f1.length cD)).heap[g5]? = some (.cells #[.bool R6.f0, .slice AD R6.f1.length cD] 69 (0, 0)) from blk_put (cs := #[.bool R6.f0, .slice none 0 0]) (blk_put BK5.out 0 _ rfl) 1 _ rfl)
      have HBX := Aside0.mk (show Below wr.heap.size wr ((w8.setCell ⟨g5, 0, none⟩ (.bool R6.f0)).setCell ⟨g5, 1, none⟩ (.slice AD R6.f1.length cD)) from by
        refine Below.setCell ?_ (show wr.heap.size ≤ g5 from GE5.out) _
        refine Below.setCell ?_ (show wr.heap.size ≤ g5 from GE5.out) _
        exact HB8.out)
      clear HB8 BK5 hz0 hz1 hf0 hf1 hx0 hx1
      generalize ((w8.setCell ⟨g5, 0, none⟩ (.bool R6.f0)).setCell ⟨g5, 1, none⟩ (.slice AD R6.f1.length cD)) = wf at BK5f HBX ⊢
      have HNf := Aside0.mk (Kd.R_below HN.out HBX.out)
      have HBf := Aside0.mk (HBL.out.trans (HBX.out.mono HBL.out.size))
      have HGf := Aside0.mk (Kd.C_below HGD.out HBX.out)
      clear HN HBL HGD HBX GE5
      refine start_ (n := 11) (S := fun w' => w'.cell? ⟨g5, 0, none⟩ = some (.bool R6.f0) ∧ w'.cell? ⟨g5, 1, none⟩ = some (.slice AD R6.f1.length cD)) (ds := [9]) #[false, false, false, false, false, false, false, false, false, false, false] (by kernel_rfl) rfl rfl ⟨((blk_cell BK5f.out 0).trans rfl), ((blk_cell BK5f.out 1).trans rfl)⟩ (fun hHeld => ?_)
      have HBD := Aside0.mk (below_drew1 HBf.out)
      have BK5D := Aside0.mk (blk_drew BK5f.out)
      have HND := Aside0.mk (R_drewO HNf.out)
      have HGD := Aside0.mk (Kd.C_drew HGf.out)
      generalize wf.drew = wD at HBD BK5D HND HGD hHeld ⊢
      refine pure_ (i := 0) (N := some 12) (v := ?_) (a' := ?_) #[true, false, false, false, false, false, false, false, false, false, false] rfl rfl (by kernel_rfl) (fun _ _ _ h => h) (Or.inl ⟨by rfl, ?_⟩) ?_ ?_
      rotate_left
      · intro w'
        go_simp
        with_reducible rfl
      rotate_left
      · simp only [Act.put, List.setIfInBounds_toArray, List.set_cons_zero, List.set_cons_succ, i64_w, i32_w]
        rfl
      refine pure_ (i := 1) (N := some 13) (v := ?_) (a' := ?_) #[true, true, false, false, false, false, false, false, false, false, false] rfl rfl (by kernel_rfl) (fun _ _ _ h => h) (Or.inl ⟨by rfl, ?_⟩) ?_ ?_
      rotate_left
      · intro w'
        go_simp
        with_reducible rfl
      rotate_left
      · simp only [Act.put, List.setIfInBounds_toArray, List.set_cons_zero, List.set_cons_succ, i64_w, i32_w]
        rfl
      refine pure_ (i := 3) (N := some 15) (v := ?_) (a' := ?_) #[true, true, false, true, false, false, false, false, false, false, false] rfl rfl (by kernel_rfl) (fun _ _ _ h => h) (Or.inl ⟨by rfl, ?_⟩) ?_ ?_
      rotate_left
      · intro w'
        go_simp
        with_reducible rfl
      rotate_left
      · simp only [Act.put, List.setIfInBounds_toArray, List.set_cons_zero, List.set_cons_succ, i64_w, i32_w]
        rfl
      refine take_ (i := 2) (N := some 14) (v := ?_) (a' := ?_) #[true, true, true, true, false, false, false, false, false, false, false] rfl rfl (by kernel_rfl) (fun _ _ _ h => h) (Or.inl ⟨by rfl, ?_⟩) hHeld ?_ ?_
      rotate_left
      · rintro w' ⟨s0, s1⟩
        go_simp
        with_reducible rfl
      rotate_left
      · simp only [Act.put, List.setIfInBounds_toArray, List.set_cons_zero, List.set_cons_succ, i64_w, i32_w]
        rfl
      refine take_ (i := 4) (N := some 16) (v := ?_) (a' := ?_) #[true, true, true, true, true, false, false, false, false, false, false] rfl rfl (by kernel_rfl) (fun _ _ _ h => h) (Or.inl ⟨by rfl, ?_⟩) hHeld ?_ ?_
      rotate_left
      · rintro w' ⟨s0, s1⟩
        go_simp
        with_reducible rfl
      rotate_left
      · simp only [Act.put, List.setIfInBounds_toArray, List.set_cons_zero, List.set_cons_succ, i64_w, i32_w]
        rfl
      refine one_ (i := 5) (N := some 17) #[true, true, true, true, true, true, false, false, false, false, false] rfl rfl (by kernel_rfl) (by decide) (fun K hK => ?_)
      refine goes_ Try.func62 (by kernel_rfl) rfl #[.slice AD R6.f1.length cD] (by rfl) rfl rfl (by (try simp only [List.map_toArray, List.map_cons, List.map_nil]); first | done | rfl) ?_
      refine (slices_Clone_int_int.calls AD cD R6.f1 R6.f1 _ HGD.out HLD.out HDD.out).mono ?_
      rintro e wa ⟨vd, rfl, hvd, hb⟩
      obtain ⟨BD, dD, evd⟩ := Kd.R_slice hvd
      subst evd
      have HLB := Aside0.mk (Kd.R_reads' hvd).2.1
      have HMD := Aside0.mk (Kd.R_mono (ok' := fun k => w.heap.size ≤ k ∧ some k ≠ u3.ownBlock) (Kd.R_lower (Kd.R_tight rfl hvd) HBD.out.size) (fun k hk => ⟨Nat.le_trans HBD.out.size (Kd.R_base hvd k hk.symm), fun e => by have h1 := Kd.R_lt HND.out k e.symm; have h2 := Kd.R_base hvd k hk.symm; omega⟩))
      replace HND := Aside0.mk (Kd.R_below HND.out hb)
      replace BK5D := Aside0.mk ((hb.block g5 (blk_lt BK5D.out)).trans BK5D.out)
      replace HBD := Aside0.mk (below_step HBD.out hb)
      clear hb hvd HGD
      refine ⟨_, rfl, ?_⟩
      refine hK.out _ _ ⟨(blk_cell BK5D.out 0).trans rfl, (blk_cell BK5D.out 1).trans rfl⟩ (fun hHeld => ?_)
      clear hK K
      refine norm_ (a' := ?_) ?_ ?_
      rotate_left
      · show Act.put _ (some 17) _ = _
        simp only [Act.put, List.setIfInBounds_toArray, List.set_cons_zero, List.set_cons_succ, i64_w, i32_w]
        rfl
      refine one_ (i := 6) (N := some 18) #[true, true, true, true, true, true, true, false, false, false, false] rfl rfl (by kernel_rfl) (by decide) (fun K hK => ?_)
      refine goes_ Try.func61 (by kernel_rfl) rfl #[.slice BD R6.f1.length dD] (by rfl) rfl rfl (by (try simp only [List.map_toArray, List.map_cons, List.map_nil]); first | done | rfl) ?_
      refine (clip_int BD R6.f1.length dD _ HLB.out).mono ?_
      rintro e wb ⟨rfl, hb⟩
      replace HMD := Aside0.mk (Kd.R_below HMD.out hb)
      replace HND := Aside0.mk (Kd.R_below HND.out hb)
      replace BK5D := Aside0.mk ((hb.block g5 (blk_lt BK5D.out)).trans BK5D.out)
      replace HBD := Aside0.mk (below_step HBD.out hb)
      clear hb
      refine ⟨_, rfl, ?_⟩
      refine hK.out _ _ ⟨(blk_cell BK5D.out 0).trans rfl, (blk_cell BK5D.out 1).trans rfl⟩ (fun hHeld => ?_)
      clear hK K
      refine norm_ (a' := ?_) ?_ ?_
      rotate_left
      · show Act.put _ (some 18) _ = _
        simp only [Act.put, List.setIfInBounds_toArray, List.set_cons_zero, List.set_cons_succ, i64_w, i32_w]
        rfl
      refine pure_ (i := 7) (N := some 19) (v := ?_) (a' := ?_) #[true, true, true, true, true, true, true, true, false, false, false] rfl rfl (by kernel_rfl) (fun _ _ _ h => h) (Or.inl ⟨by rfl, ?_⟩) ?_ ?_
      rotate_left
      · intro w'
        go_simp
        with_reducible rfl
      rotate_left
      · simp only [Act.put, List.setIfInBounds_toArray, List.set_cons_zero, List.set_cons_succ, i64_w, i32_w]
        rfl
      refine one_ (i := 8) (N := some 20) #[true, true, true, true, true, true, true, true, true, false, false] rfl rfl (by kernel_rfl) (by decide) (fun K hK => ?_)
      refine value_ (w1 := ?_) (v := ?_) (by rfl) rfl ?_ ?_
      rotate_left 2
      · go_simp
        constructor
        · rfl
        · rfl
      refine hK.out _ _ ⟨((below_alloc (Below.refl _ _) _).cell (World.block_lt_of_cell? _ _ ((blk_cell BK5D.out 0).trans rfl : _ = some (.bool R6.f0)))).trans ((blk_cell BK5D.out 0).trans rfl), ((below_alloc (Below.refl _ _) _).cell (World.block_lt_of_cell? _ _ ((blk_cell BK5D.out 1).trans rfl : _ = some (.slice AD R6.f1.length cD)))).trans ((blk_cell BK5D.out 1).trans rfl)⟩ (fun hHeld => ?_)
      clear hK K
      refine norm_ (a' := ?_) ?_ ?_
      rotate_left
      · show Act.put _ (some 20) _ = _
        simp only [Act.put, List.setIfInBounds_toArray, List.set_cons_zero, List.set_cons_succ, i64_w, i32_w]
        rfl
      refine last_ (i := 9) (N := some 21) #[true, true, true, true, true, true, true, true, true, true, false] rfl rfl (by kernel_rfl) (by decide) (fun K hK => ?_)
      refine Kd.R_append_step kc69 (w0 := w) w.heap.size (by rfl) (.tmp 12) (.tmp 20) 30 69 (.agg #[.bool false, .slice none 0 0]) 32 rfl Try.underlying30 infoSeg rfl (by decide) (by omega) u3 (l1.take x) R6 [.bool R6.f0, .slice BD R6.f1.length R6.f1.length] (fun k => w.heap.size ≤ k) (fun k => w.heap.size ≤ k ∧ some k ≠ u3.ownBlock) rfl rfl ?aP (fun _ hk => hk) (fun _ hk => Nat.le_trans HBD.out.size hk) ?aO ?aB ?aS ?aL ?_
      (case aP => exact ⟨[.bool R6.f0], [.slice BD R6.f1.length R6.f1.length], rfl, rfl, BD, R6.f1.length, R6.f1.length, dD, rfl, Nat.le_refl _, HMD.out⟩)
      (case aO => exact HND.out)
      (case aB => exact HBD.out)
      (case aS => exact HBD.out.size)
      (case aL => have := H4.out; have := List.length_take_le x l1; have := HQ.out; omega)
      intro v9 w9 ho9 hb9 hg9 hat9
      have HN9 := Aside0.mk ho9
      have HB9 := Aside0.mk hb9
      clear ho9 hb9 hg9 hat9
      refine hK.out _ _ ?_
      clear hK K
      refine norm_ (a' := ?_) ?_ ?_
      rotate_left
      · show Act.put _ (some 21) _ = _
        simp only [Act.put, List.setIfInBounds_toArray, List.set_cons_zero, List.set_cons_succ, i64_w, i32_w]
        rfl
      refine pure_ (i := 10) (N := some 3) (v := ?_) (a' := ?_) #[true, true, true, true, true, true, true, true, true, true, true] rfl rfl (by kernel_rfl) (fun _ _ _ h => h) (Or.inl ⟨by rfl, ?_⟩) ?_ ?_
      rotate_left
      · intro w'
        go_simp
        with_reducible rfl
      rotate_left
      · simp only [Act.put, List.setIfInBounds_toArray, List.set_cons_zero, List.set_cons_succ, i64_w, i32_w]
        rfl
      refine done_ (by kernel_rfl) ?_
      go_wp2
      go_roundg k1
      case measure => omega
      case rel =>
        refine ⟨x + 1, ?ii, ⟨by have := HM.out; omega, by have := HQ.out; omega⟩, ⟨by rw [HTK.out]; exact HN9.out⟩, HB9⟩
        case ii =>
          have hw : wrap64 ((x : Nat) + 1 : Int) = ((x + 1 : Nat) : Int) := by
            have := HQ.out
            have := H4.out
            unfold wrap64
            omega
          first | rfl | (simp [hw]; done) | (rw [hw])
    · have c4b0 : decide (((x : Nat) : Int) < (l1.length : Int)) = false := decide_eq_false (by omega)
      have HN2 := Aside0.mk (show Kd.R kc69 69 wr w.heap.size (fun k => w.heap.size ≤ k) u3 l1 from by
        have hN := HN.out
        rw [List.take_of_length_le (by omega)] at hN
        exact hN)
      obtain ⟨BL, dL, eL⟩ := Kd.R_slice HN2.out
      subst eL
      have hlL := (Kd.R_reads' HN2.out).2.1
      clear HN
      go_wp2_with (first | ((with_reducible refine gate_callee (f := 63) rfl ?_); refine goesL_ (some 24) rfl rfl Try.func63 (by kernel_rfl) rfl #[.slice BL l1.length dL] rfl (by (try simp only [List.map_toArray, List.map_cons, List.map_nil]); first | done | rfl) ?_; refine (clip_seg BL l1.length dL _ hlL).mono ?_; rintro e wc ⟨rfl, hb⟩; refine ⟨_, rfl, ?_⟩; have HBC := Aside0.mk (below_step HBL.out hb); have HNC := Aside0.mk (Kd.R_below HN2.out hb); clear hb))
      go_ret
      exact ⟨BL, l1.length, dL, rfl, Nat.le_refl _, HNC.out, HBC.out⟩
set_option maxHeartbeats 4000000 in
set_option maxRecDepth 100000 in
theorem infoRaw : (Try.prog.info? 73).map (fun i => (i.zero, i.size, i.bytes)) = some (some (.agg #[.int .i64 0, .int .i64 0, .slice none 0 0]), 3, 40) := by kernel_rfl
set_option maxHeartbeats 4000000 in
set_option maxRecDepth 100000 in
theorem attr_own (o : Int) (A1 : Option Addr) (c1 : Nat) (l1 : List S69) (nx md pr : Int) (A5 : Option Addr) (c5 : Nat) (l5 : List Int) (A6 : Option Addr) (c6 : Nat) (l6 : List S73) (w : World)
    (hr1 : Kd.C k69 w A1 l1.length l1) (hc1 : l1.length ≤ c1) (hr5 : Kd.C (Kd.int .u32) w A5 l5.length l5) (hc5 : l5.length ≤ c5) (hr6 : Kd.C k73 w A6 l6.length l6) (hc6 : l6.length ≤ c6) (h4 : l1.length < 4000) (hd1 : ∀ y ∈ l1, slices_Clone_int_int.f y.f1 = some y.f1) (h5 : slices_Clone_uint32_uint32.f l5 = some l5) (h6 : l6.length < 4000) (hd : ∀ r ∈ l6, bytes_Clone.f r.f2 = some r.f2) :
    Calls Try.prog 24 #[.agg #[.int .i64 o, .slice A1 l1.length c1, .int .u32 nx, .int .i64 md, .int .i64 pr, .slice A5 l5.length c5, .slice A6 l6.length c6]] w fun e w' => ∃ B1 d1 d1' B5 d5' B6 d6', e = .returned (.agg #[.int .i64 o, .slice B1 l1.length d1, .int .u32 nx, .int .i64 md, .int .i64 pr, .slice B5 l5.length l5.length, .slice B6 l6.length l6.length]) ∧ l1.length ≤ d1 ∧ Kd.R kc69 69 w' w.heap.size (fun k => w.heap.size ≤ k) (.slice B1 l1.length d1') l1 ∧ Kd.R (Kd.int .u32) 22 w' w.heap.size (fun k => w.heap.size ≤ k) (.slice B5 l5.length d5') l5 ∧ Kd.R k73 73 w' w.heap.size (fun k => w.heap.size ≤ k) (.slice B6 l6.length d6') l6 ∧ Below w.heap.size w w' := by
  have HR1 := Aside0.mk hr1
  have HR5 := Aside0.mk hr5
  have HR6 := Aside0.mk hr6
  have HC := Aside0.mk (And.intro hc1 (And.intro hc5 hc6))
  have H4 := Aside0.mk h4
  have HD1 := Aside0.mk hd1
  have H5 := Aside0.mk h5
  have H6 := Aside0.mk h6
  have HD := Aside0.mk hd
  have hu34 := Try.underlying34
  have hu73 := Try.underlying73
  have HB := Aside0.mk (Below.refl w.heap.size w)
  clear hr1 hc1 hr5 hc5 hr6 hc6 h4 hd1 h5 h6 hd
  go_enter Try.func24, Try.ntmps24
  go_upto_region 1 with (first | ((with_reducible refine gate_dst (N := 1) rfl ?_); refine box_event ?hg (N := 1) ?hd (cs := #[.int .i64 o, .slice A1 l1.length c1, .int .u32 nx, .int .i64 md, .int .i64 pr, .slice A5 l5.length c5, .slice A6 l6.length c6]) (t := 34) ?hr ?_; (case hd => rfl); (case hg => rfl); (case hr => first | (go_simp; done) | (go_simp; rfl)); intro g1 hg w1 hbox hb; have HB1 := Aside0.mk (below_step HB.out hb); have BK11 := Aside0.mk hbox; have GE1 := Aside0.mk (show w.heap.size ≤ g1 from by rw [hg]; exact Nat.le_refl _); clear hbox hb hg) | ((with_reducible refine gate_dst (N := 2) rfl ?_); refine box_event ?hg (N := 2) ?hd (cs := #[.int .i64 0, .slice none 0 0, .int .u32 0, .int .i64 0, .int .i64 0, .slice none 0 0, .slice none 0 0]) (t := 34) ?hr ?_; (case hd => rfl); (case hg => rfl); (case hr => first | (go_simp; done) | (go_simp; rfl)); intro g2 hg w2 hbox hb; have HB2 := Aside0.mk (below_step HB1.out hb); have BK1 := Aside0.mk (show w2.heap[g1]? = _ from (hb.block _ (blk_lt BK11.out)).trans BK11.out); have BK2 := Aside0.mk hbox; have GE2 := Aside0.mk (show g1 < g2 from by rw [hg]; exact blk_lt BK11.out); clear BK11; clear hbox hb hg))
  refine start_ (n := 11) (S := fun w' => w'.cell? ⟨g1, 1, none⟩ = some (.slice A1 l1.length c1) ∧ w'.cell? ⟨g1, 5, none⟩ = some (.slice A5 l5.length c5)) (ds := [8, 10]) #[false, false, false, false, false, false, false, false, false, false, false] (by kernel_rfl) rfl rfl ⟨((blk_cell BK1.out 1).trans rfl), ((blk_cell BK1.out 5).trans rfl)⟩ (fun hHeld => ?_)
  have HBD := Aside0.mk (below_drew1 HB2.out)
  have BK1D := Aside0.mk (blk_drew BK1.out)
  have BK2D := Aside0.mk (blk_drew BK2.out)
  generalize w2.drew = wD at HBD BK1D BK2D hHeld ⊢
  refine pure_ (i := 0) (N := some 6) (v := ?_) (a' := ?_) #[true, false, false, false, false, false, false, false, false, false, false] rfl rfl (by kernel_rfl) (fun _ _ _ h => h) (Or.inl ⟨by rfl, ?_⟩) ?_ ?_
  rotate_left
  · intro w'
    go_simp
    with_reducible rfl
  rotate_left
  · simp only [Act.put, List.setIfInBounds_toArray, List.set_cons_zero, List.set_cons_succ, i64_w, i32_w]
    rfl
  refine pure_ (i := 3) (N := some 9) (v := ?_) (a' := ?_) #[true, false, false, true, false, false, false, false, false, false, false] rfl rfl (by kernel_rfl) (fun _ _ _ h => h) (Or.inl ⟨by rfl, ?_⟩) ?_ ?_
  rotate_left
  · intro w'
    go_simp
    with_reducible rfl
  rotate_left
  · simp only [Act.put, List.setIfInBounds_toArray, List.set_cons_zero, List.set_cons_succ, i64_w, i32_w]
    rfl
  refine take_ (i := 1) (N := some 7) (v := ?_) (a' := ?_) #[true, true, false, true, false, false, false, false, false, false, false] rfl rfl (by kernel_rfl) (fun _ _ _ h => h) (Or.inl ⟨by rfl, ?_⟩) hHeld ?_ ?_
  rotate_left
  · rintro w' ⟨s0, s1⟩
    go_simp
    with_reducible rfl
  rotate_left
  · simp only [Act.put, List.setIfInBounds_toArray, List.set_cons_zero, List.set_cons_succ, i64_w, i32_w]
    rfl
  refine take_ (i := 4) (N := some 10) (v := ?_) (a' := ?_) #[true, true, false, true, true, false, false, false, false, false, false] rfl rfl (by kernel_rfl) (fun _ _ _ h => h) (Or.inl ⟨by rfl, ?_⟩) hHeld ?_ ?_
  rotate_left
  · rintro w' ⟨s0, s1⟩
    go_simp
    with_reducible rfl
  rotate_left
  · simp only [Act.put, List.setIfInBounds_toArray, List.set_cons_zero, List.set_cons_succ, i64_w, i32_w]
    rfl
  refine one_ (i := 2) (N := some 8) #[true, true, true, true, true, false, false, false, false, false, false] rfl rfl (by kernel_rfl) (by decide) (fun K hK => ?_)
  refine goes_ Try.func41 (by kernel_rfl) rfl #[.slice A1 l1.length c1] (by rfl) rfl rfl (by (try simp only [List.map_toArray, List.map_cons, List.map_nil]); first | done | rfl) ?_
  refine (path_own A1 c1 l1 _ (Kd.C_below HR1.out HBD.out) HC.out.1 H4.out HD1.out).mono ?_
  rintro e w3 ⟨B1, d1, d1', rfl, hl1, hv1, hb⟩
  have HL1 := Aside0.mk hl1
  have HF1 := Aside0.mk (Kd.R_mono (ok' := fun k => g2 < k) (Kd.R_lower hv1 (show g2 + 1 ≤ _ from blk_lt BK2D.out)) (fun k hk => Nat.lt_of_lt_of_le (blk_lt BK2D.out) hk))
  have HBE := Aside0.mk (below_step HBD.out hb)
  have BK1E := Aside0.mk ((hb.block g1 (blk_lt BK1D.out)).trans BK1D.out)
  have BK2E := Aside0.mk ((hb.block g2 (blk_lt BK2D.out)).trans BK2D.out)
  clear HBD BK1D BK2D
  have HBD := HBE
  have BK1D := BK1E
  have BK2D := BK2E
  clear HBE BK1E BK2E
  clear hb hv1 hl1
  refine ⟨_, rfl, ?_⟩
  refine hK.out _ _ ⟨(blk_cell BK1D.out 1).trans rfl, (blk_cell BK1D.out 5).trans rfl⟩ (fun hHeld => ?_)
  clear hK K
  refine norm_ (a' := ?_) ?_ ?_
  rotate_left
  · show Act.put _ (some 8) _ = _
    simp only [Act.put, List.setIfInBounds_toArray, List.set_cons_zero, List.set_cons_succ, i64_w, i32_w]
    rfl
  refine pure_ (i := 7) (N := some 13) (v := ?_) (a' := ?_) #[true, true, true, true, true, false, false, true, false, false, false] rfl rfl (by kernel_rfl) (fun _ _ _ h => h) (Or.inl ⟨by rfl, ?_⟩) ?_ ?_
  rotate_left
  · intro w'
    go_simp
    with_reducible rfl
  rotate_left
  · simp only [Act.put, List.setIfInBounds_toArray, List.set_cons_zero, List.set_cons_succ, i64_w, i32_w]
    rfl
  refine one_ (i := 5) (N := some 11) #[true, true, true, true, true, true, false, true, false, false, false] rfl rfl (by kernel_rfl) (by decide) (fun K hK => ?_)
  refine goes_ Try.func43 (by kernel_rfl) rfl #[.slice A5 l5.length c5] (by rfl) rfl rfl (by (try simp only [List.map_toArray, List.map_cons, List.map_nil]); first | done | rfl) ?_
  refine (slices_Clone_uint32_uint32.calls A5 c5 l5 l5 _ (Kd.C_below HR5.out HBD.out) HC.out.2.1 H5.out).mono ?_
  rintro e w4 ⟨v5, rfl, hv5, hb⟩
  obtain ⟨B5, d5, ev5⟩ := Kd.R_slice hv5
  subst ev5
  replace HF1 := Aside0.mk (Kd.R_below HF1.out hb)
  have HV5 := Aside0.mk (Kd.R_reads' hv5).2.1
  have HF5 := Aside0.mk (Kd.R_mono (ok' := fun k => g2 < k) (Kd.R_lower (Kd.R_tight rfl hv5) (show g2 + 1 ≤ _ from blk_lt BK2D.out)) (fun k hk => Nat.lt_of_lt_of_le (blk_lt BK2D.out) (Kd.R_base hv5 k hk.symm)))
  have HBE := Aside0.mk (below_step HBD.out hb)
  have BK1E := Aside0.mk ((hb.block g1 (blk_lt BK1D.out)).trans BK1D.out)
  have BK2E := Aside0.mk ((hb.block g2 (blk_lt BK2D.out)).trans BK2D.out)
  clear HBD BK1D BK2D
  have HBD := HBE
  have BK1D := BK1E
  have BK2D := BK2E
  clear HBE BK1E BK2E
  clear hb hv5
  refine ⟨_, rfl, ?_⟩
  refine hK.out _ _ ⟨(blk_cell BK1D.out 1).trans rfl, (blk_cell BK1D.out 5).trans rfl⟩ (fun hHeld => ?_)
  clear hK K
  refine norm_ (a' := ?_) ?_ ?_
  rotate_left
  · show Act.put _ (some 11) _ = _
    simp only [Act.put, List.setIfInBounds_toArray, List.set_cons_zero, List.set_cons_succ, i64_w, i32_w]
    rfl
  refine one_ (i := 6) (N := some 12) #[true, true, true, true, true, true, true, true, false, false, false] rfl rfl (by kernel_rfl) (by decide) (fun K hK => ?_)
  refine goes_ Try.func42 (by kernel_rfl) rfl #[.slice B5 l5.length d5] (by rfl) rfl rfl (by (try simp only [List.map_toArray, List.map_cons, List.map_nil]); first | done | rfl) ?_
  refine (clip_u32 B5 l5.length d5 _ HV5.out).mono ?_
  rintro e w5 ⟨rfl, hb⟩
  replace HF1 := Aside0.mk (Kd.R_below HF1.out hb)
  replace HF5 := Aside0.mk (Kd.R_below HF5.out hb)
  have HBE := Aside0.mk (below_step HBD.out hb)
  have BK1E := Aside0.mk ((hb.block g1 (blk_lt BK1D.out)).trans BK1D.out)
  have BK2E := Aside0.mk ((hb.block g2 (blk_lt BK2D.out)).trans BK2D.out)
  clear HBD BK1D BK2D
  have HBD := HBE
  have BK1D := BK1E
  have BK2D := BK2E
  clear HBE BK1E BK2E
  clear hb
  have hs1 : w5.cell? ⟨g1, 1, none⟩ = some (.slice A1 l1.length c1) := (blk_cell BK1D.out 1).trans rfl
  have hs5 : w5.cell? ⟨g1, 5, none⟩ = some (.slice A5 l5.length c5) := (blk_cell BK1D.out 5).trans rfl
  have hsf1 := blk_frozen BK1D.out 1
  have hsf5 := blk_frozen BK1D.out 5
  refine ⟨_, rfl, ?_⟩
  refine hK.out _ _ ⟨(blk_cell BK1D.out 1).trans rfl, (blk_cell BK1D.out 5).trans rfl⟩ (fun hHeld => ?_)
  clear hK K
  refine norm_ (a' := ?_) ?_ ?_
  rotate_left
  · show Act.put _ (some 12) _ = _
    simp only [Act.put, List.setIfInBounds_toArray, List.set_cons_zero, List.set_cons_succ, i64_w, i32_w]
    rfl
  refine last_ (i := 8) (N := none) #[true, true, true, true, true, true, true, true, true, false, false] rfl rfl (by kernel_rfl) (by decide) (fun K hK => ?_)
  refine skip_ (w1 := ?_) (by rfl) rfl ?_ ?_
  rotate_left
  · go_simp
    rfl
  refine hK.out _ _ ?_
  clear hK K
  refine pure_ (i := 9) (N := some 14) (v := ?_) (a' := ?_) #[true, true, true, true, true, true, true, true, true, true, false] rfl rfl (by kernel_rfl) (fun _ _ _ h => h) (Or.inl ⟨by rfl, ?_⟩) ?_ ?_
  rotate_left
  · intro w'
    go_simp
    with_reducible rfl
  rotate_left
  · simp only [Act.put, List.setIfInBounds_toArray, List.set_cons_zero, List.set_cons_succ, i64_w, i32_w]
    rfl
  refine last_ (i := 10) (N := none) #[true, true, true, true, true, true, true, true, true, true, true] rfl rfl (by kernel_rfl) (by decide) (fun K hK => ?_)
  refine skip_ (w1 := ?_) (by rfl) rfl ?_ ?_
  rotate_left
  · go_simp
    rfl
  refine hK.out _ _ ?_
  clear hK K
  refine done_ (by kernel_rfl) ?_
  have BK16 := Aside0.mk (show ((w5.setCell ⟨g1, 1, none⟩ (.slice B1 l1.length d1)).setCell ⟨g1, 5, none⟩ (.slice B5 l5.length l5.length)).heap[g1]? = some (.cells #[.int .i64 o, .slice B1 l1.length d1, .int .u32 nx, .int .i64 md, .int .i64 pr, .slice B5 l5.length l5.length, .slice A6 l6.length c6] 34 (0, 0)) from blk_put (cs := #[.int .i64 o, .slice B1 l1.length d1, .int .u32 nx, .int .i64 md, .int .i64 pr, .slice A5 l5.length c5, .slice A6 l6.length c6]) (blk_put BK1D.out 1 _ rfl) 5 _ rfl)
  have BK26 := Aside0.mk (show ((w5.setCell ⟨g1, 1, none⟩ (.slice B1 l1.length d1)).setCell ⟨g1, 5, none⟩ (.slice B5 l5.length l5.length)).heap[g2]? = some (.cells #[.int .i64 0, .slice none 0 0, .int .u32 0, .int .i64 0, .int .i64 0, .slice none 0 0, .slice none 0 0] 34 (0, 0)) from (Below.heap_setCell _ ⟨g1, _, none⟩ _ g2 (by have := GE2.out; show g2 ≠ g1; omega)).trans ((Below.heap_setCell _ ⟨g1, _, none⟩ _ g2 (by have := GE2.out; show g2 ≠ g1; omega)).trans BK2D.out))
  have HF16 := Aside0.mk (Kd.R_far (p := ⟨g1, 5, none⟩) (Kd.R_far (p := ⟨g1, 1, none⟩) HF1.out (fun k hk => by have := GE2.out; show k ≠ g1; omega) (.slice B1 l1.length d1)) (fun k hk => by have := GE2.out; show k ≠ g1; omega) (.slice B5 l5.length l5.length))
  have HF56 := Aside0.mk (Kd.R_far (p := ⟨g1, 5, none⟩) (Kd.R_far (p := ⟨g1, 1, none⟩) HF5.out (fun k hk => by have := GE2.out; show k ≠ g1; omega) (.slice B1 l1.length d1)) (fun k hk => by have := GE2.out; show k ≠ g1; omega) (.slice B5 l5.length l5.length))
  have HB6 := Aside0.mk (Below.setCell (p := ⟨g1, 5, none⟩) (Below.setCell (p := ⟨g1, 1, none⟩) HBD.out GE1.out (.slice B1 l1.length d1)) GE1.out (.slice B5 l5.length l5.length))
  clear HB1 HB2 BK1 BK2 HBD BK1D BK2D HF1 HF5 HV5 hs1 hs5 hsf1 hsf5
  generalize ((w5.setCell ⟨g1, 1, none⟩ (.slice B1 l1.length d1)).setCell ⟨g1, 5, none⟩ (.slice B5 l5.length l5.length)) = w6 at BK16 BK26 HF16 HF56 HB6 ⊢
  have hcr : w6.cell? ⟨g1, 6, none⟩ = some (.slice A6 l6.length c6) := (blk_cell BK16.out 6).trans rfl
  go_wp2
  clear hcr
  go_loopg [3, 18] (l6.length + 1) (fun kq v3 v18 w' => ∃ x : Nat, v18 = .int .i64 (x : Int) ∧ Aside0 (x + kq = l6.length + 1 ∧ x ≤ l6.length) ∧ Aside0 (Kd.R k73 73 w' w6.heap.size (fun k => w6.heap.size ≤ k) v3 (l6.take x)) ∧ Aside0 (Below w6.heap.size w6 w'))
  case atStart => exact ⟨0, rfl, ⟨by omega, by omega⟩, ⟨Kd.R_nil _ _ _ _ _⟩, ⟨Below.refl _ _⟩⟩
  case round =>
    obtain ⟨x, rfl, HM, HN, HBL⟩ := hrel
    obtain ⟨k1, rfl⟩ : ∃ k1, gk = k1 + 1 := ⟨gk - 1, by have := HM.out; omega⟩
    by_cases hlt : x < l6.length
    · have q0 : 0 ≤ ((x : Nat) : Int) := by omega
      have q1 : ((x : Nat) : Int) < (l6.length : Int) := by omega
      have c4b0 : decide (((x : Nat) : Int) < (l6.length : Int)) = true := decide_eq_true q1
      have c4b1 : decide (x < l6.length) = true := decide_eq_true hlt
      obtain ⟨ad, AD, cD, e, hx0, hx1, hx2, lD, gD⟩ := at_T73 (Kd.C_below HR6.out (HB6.out.trans (HBL.out.mono HB6.out.size))) ((x : Nat) : Int) q0 q1
      cases e
      simp only [Int.toNat_natCast] at hx0 hx1 hx2
      have hR : rd_T73 l6 ((x : Nat) : Int) = l6[x] := by
        unfold rd_T73
        rw [List.getD_eq_getElem?_getD, Int.toNat_natCast, List.getElem?_eq_getElem hlt]
        rfl
      have HTK := Aside0.mk (show l6.take (x + 1) = l6.take x ++ [l6[x]] from List.take_succ_eq_append_getElem hlt)
      have HDD := Aside0.mk (HD.out l6[x] (List.getElem_mem hlt))
      have HQ := Aside0.mk hlt
      rw [hR] at hx0 hx1 hx2 lD gD
      have HLD := Aside0.mk lD
      have HGD := Aside0.mk gD
      clear hR lD gD
      generalize l6[x] = R6 at hx0 hx1 hx2 HTK HDD HLD HGD
      clear hlt
      replace q0 := eq_true q0
      replace q1 := eq_true q1
      go_upto_region 6 with (first | ((with_reducible refine gate_dst (N := 5) rfl ?_); refine box_event ?hg (N := 5) ?hd (cs := #[.int .i64 0, .int .i64 0, .slice none 0 0]) (t := 73) ?hr ?_; (case hd => rfl); (case hg => rfl); (case hr => first | (go_simp; done) | (go_simp; rfl)); intro g5 hg w8 hbox hb; have HB8 := Aside0.mk hb; have BK5 := Aside0.mk hbox; have GE5 := Aside0.mk (show wr.heap.size ≤ g5 from by rw [hg]; exact Nat.le_refl _); have hz0 := (show w8.cell? ⟨g5, 0, none⟩ = some (.int .i64 0) from (blk_cell hbox 0).trans rfl); have hf0 := blk_frozen hbox 0; have hz1 := (show w8.cell? ⟨g5, 1, none⟩ = some (.int .i64 0) from (blk_cell hbox 1).trans rfl); have hf1 := blk_frozen hbox 1; have hz2 := (show w8.cell? ⟨g5, 2, none⟩ = some (.slice none 0 0) from (blk_cell hbox 2).trans rfl); have hf2 := blk_frozen hbox 2; replace hx0 := (hb.cell (World.block_lt_of_cell? _ _ hx0)).trans hx0; replace hx1 := (hb.cell (World.block_lt_of_cell? _ _ hx1)).trans hx1; replace hx2 := (hb.cell (World.block_lt_of_cell? _ _ hx2)).trans hx2; clear hbox hb hg))
      have BK5f := Aside0.mk (show (((w8.setCell ⟨g5, 0, none⟩ (.int .i64 R6.f0)).setCell ⟨g5, 1, none⟩ (.int .i64 R6.f1)).setCell ⟨g5, 2, none⟩ (.slice AD R6.f2.length cD)).heap[g5]? = some (.cells #[.int .i64 R6.f0, .int .i64 R6.f1, .slice AD R6.f2.length cD] 73 (0, 0)) from blk_put (cs := #[.int .i64 R6.f0, .int .i64 R6.f1, .slice none 0 0]) (blk_put (cs := #[.int .i64 R6.f0, .int .i64 0, .slice none 0 0]) (blk_put BK5.out 0 _ rfl) 1 _ rfl) 2 _ rfl)
      have HBX := Aside0.mk (show Below wr.heap.size wr (((w8.setCell ⟨g5, 0, none⟩ (.int .i64 R6.f0)).setCell ⟨g5, 1, none⟩ (.int .i64 R6.f1)).setCell ⟨g5, 2, none⟩ (.slice AD R6.f2.length cD)) from by
        refine Below.setCell ?_ (show wr.heap.size ≤ g5 from GE5.out) _
        refine Below.setCell ?_ (show wr.heap.size ≤ g5 from GE5.out) _
        refine Below.setCell ?_ (show wr.heap.size ≤ g5 from GE5.out) _
        exact HB8.out)
      clear HB8 BK5 hz0 hz1 hz2 hf0 hf1 hf2 hx0 hx1 hx2
      generalize (((w8.setCell ⟨g5, 0, none⟩ (.int .i64 R6.f0)).setCell ⟨g5, 1, none⟩ (.int .i64 R6.f1)).setCell ⟨g5, 2, none⟩ (.slice AD R6.f2.length cD)) = wf at BK5f HBX ⊢
      have HNf := Aside0.mk (Kd.R_below HN.out HBX.out)
      have HBf := Aside0.mk (HBL.out.trans (HBX.out.mono HBL.out.size))
      have HGf := Aside0.mk (Kd.C_below HGD.out HBX.out)
      clear HN HBL HGD HBX GE5
      refine start_ (n := 12) (S := fun w' => w'.cell? ⟨g5, 0, none⟩ = some (.int .i64 R6.f0) ∧ w'.cell? ⟨g5, 1, none⟩ = some (.int .i64 R6.f1) ∧ w'.cell? ⟨g5, 2, none⟩ = some (.slice AD R6.f2.length cD)) (ds := [10]) #[false, false, false, false, false, false, false, false, false, false, false, false] (by kernel_rfl) rfl rfl ⟨((blk_cell BK5f.out 0).trans rfl), ((blk_cell BK5f.out 1).trans rfl), ((blk_cell BK5f.out 2).trans rfl)⟩ (fun hHeld => ?_)
      have HBD := Aside0.mk (below_drew1 HBf.out)
      have BK5D := Aside0.mk (blk_drew BK5f.out)
      have HND := Aside0.mk (R_drewO HNf.out)
      have HGD := Aside0.mk (Kd.C_drew HGf.out)
      generalize wf.drew = wD at HBD BK5D HND HGD hHeld ⊢
      refine pure_ (i := 0) (N := some 22) (v := ?_) (a' := ?_) #[true, false, false, false, false, false, false, false, false, false, false, false] rfl rfl (by kernel_rfl) (fun _ _ _ h => h) (Or.inl ⟨by rfl, ?_⟩) ?_ ?_
      rotate_left
      · intro w'
        go_simp
        with_reducible rfl
      rotate_left
      · simp only [Act.put, List.setIfInBounds_toArray, List.set_cons_zero, List.set_cons_succ, i64_w, i32_w]
        rfl
      refine pure_ (i := 1) (N := some 23) (v := ?_) (a' := ?_) #[true, true, false, false, false, false, false, false, false, false, false, false] rfl rfl (by kernel_rfl) (fun _ _ _ h => h) (Or.inl ⟨by rfl, ?_⟩) ?_ ?_
      rotate_left
      · intro w'
        go_simp
        with_reducible rfl
      rotate_left
      · simp only [Act.put, List.setIfInBounds_toArray, List.set_cons_zero, List.set_cons_succ, i64_w, i32_w]
        rfl
      refine pure_ (i := 3) (N := some 25) (v := ?_) (a' := ?_) #[true, true, false, true, false, false, false, false, false, false, false, false] rfl rfl (by kernel_rfl) (fun _ _ _ h => h) (Or.inl ⟨by rfl, ?_⟩) ?_ ?_
      rotate_left
      · intro w'
        go_simp
        with_reducible rfl
      rotate_left
      · simp only [Act.put, List.setIfInBounds_toArray, List.set_cons_zero, List.set_cons_succ, i64_w, i32_w]
        rfl
      refine pure_ (i := 5) (N := some 27) (v := ?_) (a' := ?_) #[true, true, false, true, false, true, false, false, false, false, false, false] rfl rfl (by kernel_rfl) (fun _ _ _ h => h) (Or.inl ⟨by rfl, ?_⟩) ?_ ?_
      rotate_left
      · intro w'
        go_simp
        with_reducible rfl
      rotate_left
      · simp only [Act.put, List.setIfInBounds_toArray, List.set_cons_zero, List.set_cons_succ, i64_w, i32_w]
        rfl
      refine take_ (i := 2) (N := some 24) (v := ?_) (a' := ?_) #[true, true, true, true, false, true, false, false, false, false, false, false] rfl rfl (by kernel_rfl) (fun _ _ _ h => h) (Or.inl ⟨by rfl, ?_⟩) hHeld ?_ ?_
      rotate_left
      · rintro w' ⟨s0, s1, s2⟩
        go_simp
        with_reducible rfl
      rotate_left
      · simp only [Act.put, List.setIfInBounds_toArray, List.set_cons_zero, List.set_cons_succ, i64_w, i32_w]
        rfl
      refine take_ (i := 4) (N := some 26) (v := ?_) (a' := ?_) #[true, true, true, true, true, true, false, false, false, false, false, false] rfl rfl (by kernel_rfl) (fun _ _ _ h => h) (Or.inl ⟨by rfl, ?_⟩) hHeld ?_ ?_
      rotate_left
      · rintro w' ⟨s0, s1, s2⟩
        go_simp
        with_reducible rfl
      rotate_left
      · simp only [Act.put, List.setIfInBounds_toArray, List.set_cons_zero, List.set_cons_succ, i64_w, i32_w]
        rfl
      refine take_ (i := 6) (N := some 28) (v := ?_) (a' := ?_) #[true, true, true, true, true, true, true, false, false, false, false, false] rfl rfl (by kernel_rfl) (fun _ _ _ h => h) (Or.inl ⟨by rfl, ?_⟩) hHeld ?_ ?_
      rotate_left
      · rintro w' ⟨s0, s1, s2⟩
        go_simp
        with_reducible rfl
      rotate_left
      · simp only [Act.put, List.setIfInBounds_toArray, List.set_cons_zero, List.set_cons_succ, i64_w, i32_w]
        rfl
      refine one_ (i := 7) (N := some 29) #[true, true, true, true, true, true, true, true, false, false, false, false] rfl rfl (by kernel_rfl) (by decide) (fun K hK => ?_)
      refine goes_ Try.func44 (by kernel_rfl) rfl #[.slice AD R6.f2.length cD] (by rfl) rfl rfl (by (try simp only [List.map_toArray, List.map_cons, List.map_nil]); first | done | rfl) ?_
      refine (bytes_Clone.calls AD cD R6.f2 R6.f2 _ HGD.out HLD.out HDD.out).mono ?_
      rintro e wa ⟨vd, rfl, hvd, hb⟩
      obtain ⟨BD, dD, evd⟩ := Kd.R_slice hvd
      subst evd
      have HLB := Aside0.mk (Kd.R_reads' hvd).2.1
      have HMD := Aside0.mk (Kd.R_mono (ok' := fun k => w6.heap.size ≤ k ∧ some k ≠ u3.ownBlock) (Kd.R_lower (Kd.R_tight rfl hvd) HBD.out.size) (fun k hk => ⟨Nat.le_trans HBD.out.size (Kd.R_base hvd k hk.symm), fun e => by have h1 := Kd.R_lt HND.out k e.symm; have h2 := Kd.R_base hvd k hk.symm; omega⟩))
      replace HND := Aside0.mk (Kd.R_below HND.out hb)
      replace BK5D := Aside0.mk ((hb.block g5 (blk_lt BK5D.out)).trans BK5D.out)
      replace HBD := Aside0.mk (below_step HBD.out hb)
      clear hb hvd HGD
      refine ⟨_, rfl, ?_⟩
      refine hK.out _ _ ⟨(blk_cell BK5D.out 0).trans rfl, (blk_cell BK5D.out 1).trans rfl, (blk_cell BK5D.out 2).trans rfl⟩ (fun hHeld => ?_)
      clear hK K
      refine norm_ (a' := ?_) ?_ ?_
      rotate_left
      · show Act.put _ (some 29) _ = _
        simp only [Act.put, List.setIfInBounds_toArray, List.set_cons_zero, List.set_cons_succ, i64_w, i32_w]
        rfl
      refine pure_ (i := 8) (N := some 30) (v := ?_) (a' := ?_) #[true, true, true, true, true, true, true, true, true, false, false, false] rfl rfl (by kernel_rfl) (fun _ _ _ h => h) (Or.inl ⟨by rfl, ?_⟩) ?_ ?_
      rotate_left
      · intro w'
        go_simp
        with_reducible rfl
      rotate_left
      · simp only [Act.put, List.setIfInBounds_toArray, List.set_cons_zero, List.set_cons_succ, i64_w, i32_w]
        rfl
      refine one_ (i := 9) (N := some 31) #[true, true, true, true, true, true, true, true, true, true, false, false] rfl rfl (by kernel_rfl) (by decide) (fun K hK => ?_)
      refine value_ (w1 := ?_) (v := ?_) (by rfl) rfl ?_ ?_
      rotate_left 2
      · go_simp
        constructor
        · rfl
        · rfl
      refine hK.out _ _ ⟨((below_alloc (Below.refl _ _) _).cell (World.block_lt_of_cell? _ _ ((blk_cell BK5D.out 0).trans rfl : _ = some (.int .i64 R6.f0)))).trans ((blk_cell BK5D.out 0).trans rfl), ((below_alloc (Below.refl _ _) _).cell (World.block_lt_of_cell? _ _ ((blk_cell BK5D.out 1).trans rfl : _ = some (.int .i64 R6.f1)))).trans ((blk_cell BK5D.out 1).trans rfl), ((below_alloc (Below.refl _ _) _).cell (World.block_lt_of_cell? _ _ ((blk_cell BK5D.out 2).trans rfl : _ = some (.slice AD R6.f2.length cD)))).trans ((blk_cell BK5D.out 2).trans rfl)⟩ (fun hHeld => ?_)
      clear hK K
      refine norm_ (a' := ?_) ?_ ?_
      rotate_left
      · show Act.put _ (some 31) _ = _
        simp only [Act.put, List.setIfInBounds_toArray, List.set_cons_zero, List.set_cons_succ, i64_w, i32_w]
        rfl
      refine last_ (i := 10) (N := some 32) #[true, true, true, true, true, true, true, true, true, true, true, false] rfl rfl (by kernel_rfl) (by decide) (fun K hK => ?_)
      refine Kd.R_append_step k73 (w0 := w6) w6.heap.size (by rfl) (.tmp 22) (.tmp 31) 32 73 (.agg #[.int .i64 0, .int .i64 0, .slice none 0 0]) 40 rfl Try.underlying32 infoRaw rfl (by decide) (by omega) u3 (l6.take x) R6 [.int .i64 R6.f0, .int .i64 R6.f1, .slice BD R6.f2.length dD] (fun k => w6.heap.size ≤ k) (fun k => w6.heap.size ≤ k ∧ some k ≠ u3.ownBlock) rfl rfl ?aP (fun _ hk => hk) (fun _ hk => Nat.le_trans HBD.out.size hk) ?aO ?aB ?aS ?aL ?_
      (case aP => exact k73_mkM _ _ _ R6 HMD.out)
      (case aO => exact HND.out)
      (case aB => exact HBD.out)
      (case aS => exact HBD.out.size)
      (case aL => have := H6.out; have := List.length_take_le x l6; have := HQ.out; omega)
      intro v9 w9 ho9 hb9 hg9 hat9
      have HN9 := Aside0.mk ho9
      have HB9 := Aside0.mk hb9
      clear ho9 hb9 hg9 hat9
      refine hK.out _ _ ?_
      clear hK K
      refine norm_ (a' := ?_) ?_ ?_
      rotate_left
      · show Act.put _ (some 32) _ = _
        simp only [Act.put, List.setIfInBounds_toArray, List.set_cons_zero, List.set_cons_succ, i64_w, i32_w]
        rfl
      refine pure_ (i := 11) (N := some 3) (v := ?_) (a' := ?_) #[true, true, true, true, true, true, true, true, true, true, true, true] rfl rfl (by kernel_rfl) (fun _ _ _ h => h) (Or.inl ⟨by rfl, ?_⟩) ?_ ?_
      rotate_left
      · intro w'
        go_simp
        with_reducible rfl
      rotate_left
      · simp only [Act.put, List.setIfInBounds_toArray, List.set_cons_zero, List.set_cons_succ, i64_w, i32_w]
        rfl
      refine done_ (by kernel_rfl) ?_
      go_wp2
      go_roundg k1
      case measure => omega
      case rel =>
        refine ⟨x + 1, ?ii, ⟨by have := HM.out; omega, by have := HQ.out; omega⟩, ⟨by rw [HTK.out]; exact HN9.out⟩, HB9⟩
        case ii =>
          have hw : wrap64 ((x : Nat) + 1 : Int) = ((x + 1 : Nat) : Int) := by
            have := HQ.out
            have := H6.out
            unfold wrap64
            omega
          first | rfl | (simp [hw]; done) | (rw [hw])
    · have c4b0 : decide (((x : Nat) : Int) < (l6.length : Int)) = false := decide_eq_false (by omega)
      have HN2 := Aside0.mk (show Kd.R k73 73 wr w6.heap.size (fun k => w6.heap.size ≤ k) u3 l6 from by
        have hN := HN.out
        rw [List.take_of_length_le (by omega)] at hN
        exact hN)
      obtain ⟨BL, dL, eL⟩ := Kd.R_slice HN2.out
      subst eL
      have hlL := (Kd.R_reads' HN2.out).2.1
      have HLE6 := Aside0.mk HB6.out.size
      have HBA := Aside0.mk (HB6.out.trans (HBL.out.mono HB6.out.size))
      have BK1A := Aside0.mk ((HBL.out.block g1 (blk_lt BK16.out)).trans BK16.out)
      have BK2A := Aside0.mk ((HBL.out.block g2 (blk_lt BK26.out)).trans BK26.out)
      have HF1A := Aside0.mk (Kd.R_below HF16.out HBL.out)
      have HF5A := Aside0.mk (Kd.R_below HF56.out HBL.out)
      have HFLA := Aside0.mk (Kd.R_mono (ok' := fun k => g2 < k) HN2.out (fun k hk => Nat.lt_of_lt_of_le (blk_lt BK26.out) hk))
      clear HN HN2 HBL BK16 BK26 HF16 HF56 HB6
      go_wp2_with (first | ((with_reducible refine gate_callee (f := 45) rfl ?_); refine goesL_ (some 35) rfl rfl Try.func45 (by kernel_rfl) rfl #[.slice BL l6.length dL] rfl (by (try simp only [List.map_toArray, List.map_cons, List.map_nil]); first | done | rfl) ?_; refine (clip_raw BL l6.length dL _ hlL).mono ?_; rintro e wc ⟨rfl, hb⟩; refine ⟨_, rfl, ?_⟩; have HBC := Aside0.mk (below_step HBA.out hb); have BK1C := Aside0.mk ((hb.block g1 (blk_lt BK1A.out)).trans BK1A.out); have BK2C := Aside0.mk ((hb.block g2 (blk_lt BK2A.out)).trans BK2A.out); have HF1C := Aside0.mk (Kd.R_below HF1A.out hb); have HF5C := Aside0.mk (Kd.R_below HF5A.out hb); have HFLC := Aside0.mk (Kd.R_below HFLA.out hb); clear hb; have hcz1_0 : wc.cell? ⟨g1, 0, none⟩ = some (.int .i64 o) := (blk_cell BK1C.out 0).trans rfl; have hfz1_0 := blk_frozen BK1C.out 0; have hcz1_1 : wc.cell? ⟨g1, 1, none⟩ = some (.slice B1 l1.length d1) := (blk_cell BK1C.out 1).trans rfl; have hfz1_1 := blk_frozen BK1C.out 1; have hcz1_2 : wc.cell? ⟨g1, 2, none⟩ = some (.int .u32 nx) := (blk_cell BK1C.out 2).trans rfl; have hfz1_2 := blk_frozen BK1C.out 2; have hcz1_3 : wc.cell? ⟨g1, 3, none⟩ = some (.int .i64 md) := (blk_cell BK1C.out 3).trans rfl; have hfz1_3 := blk_frozen BK1C.out 3; have hcz1_4 : wc.cell? ⟨g1, 4, none⟩ = some (.int .i64 pr) := (blk_cell BK1C.out 4).trans rfl; have hfz1_4 := blk_frozen BK1C.out 4; have hcz1_5 : wc.cell? ⟨g1, 5, none⟩ = some (.slice B5 l5.length l5.length) := (blk_cell BK1C.out 5).trans rfl; have hfz1_5 := blk_frozen BK1C.out 5; have hcz1_6 : wc.cell? ⟨g1, 6, none⟩ = some (.slice A6 l6.length c6) := (blk_cell BK1C.out 6).trans rfl; have hfz1_6 := blk_frozen BK1C.out 6; have hcz2_0 : wc.cell? ⟨g2, 0, none⟩ = some (.int .i64 0) := (blk_cell BK2C.out 0).trans rfl; have hfz2_0 := blk_frozen BK2C.out 0; have hcz2_1 : wc.cell? ⟨g2, 1, none⟩ = some (.slice none 0 0) := (blk_cell BK2C.out 1).trans rfl; have hfz2_1 := blk_frozen BK2C.out 1; have hcz2_2 : wc.cell? ⟨g2, 2, none⟩ = some (.int .u32 0) := (blk_cell BK2C.out 2).trans rfl; have hfz2_2 := blk_frozen BK2C.out 2; have hcz2_3 : wc.cell? ⟨g2, 3, none⟩ = some (.int .i64 0) := (blk_cell BK2C.out 3).trans rfl; have hfz2_3 := blk_frozen BK2C.out 3; have hcz2_4 : wc.cell? ⟨g2, 4, none⟩ = some (.int .i64 0) := (blk_cell BK2C.out 4).trans rfl; have hfz2_4 := blk_frozen BK2C.out 4; have hcz2_5 : wc.cell? ⟨g2, 5, none⟩ = some (.slice none 0 0) := (blk_cell BK2C.out 5).trans rfl; have hfz2_5 := blk_frozen BK2C.out 5; have hcz2_6 : wc.cell? ⟨g2, 6, none⟩ = some (.slice none 0 0) := (blk_cell BK2C.out 6).trans rfl; have hfz2_6 := blk_frozen BK2C.out 6; have hne12 : g1 ≠ g2 := (by have := GE2.out; omega); have hne21 : g2 ≠ g1 := (by have := GE2.out; omega)))
      have BKF := Aside0.mk (show ((((((((wc.setCell ⟨g1, 6, none⟩ (.slice BL l6.length l6.length)).setCell ⟨g2, 0, none⟩ (.int .i64 o)).setCell ⟨g2, 1, none⟩ (.slice B1 l1.length d1)).setCell ⟨g2, 2, none⟩ (.int .u32 nx)).setCell ⟨g2, 3, none⟩ (.int .i64 md)).setCell ⟨g2, 4, none⟩ (.int .i64 pr)).setCell ⟨g2, 5, none⟩ (.slice B5 l5.length l5.length)).setCell ⟨g2, 6, none⟩ (.slice BL l6.length l6.length)).heap[g2]? = some (.cells #[.int .i64 o, .slice B1 l1.length d1, .int .u32 nx, .int .i64 md, .int .i64 pr, .slice B5 l5.length l5.length, .slice BL l6.length l6.length] 34 (0, 0)) from by refine blk_put (cs := #[.int .i64 o, .slice B1 l1.length d1, .int .u32 nx, .int .i64 md, .int .i64 pr, .slice B5 l5.length l5.length, .slice none 0 0]) ?_ 6 _ rfl; refine blk_put (cs := #[.int .i64 o, .slice B1 l1.length d1, .int .u32 nx, .int .i64 md, .int .i64 pr, .slice none 0 0, .slice none 0 0]) ?_ 5 _ rfl; refine blk_put (cs := #[.int .i64 o, .slice B1 l1.length d1, .int .u32 nx, .int .i64 md, .int .i64 0, .slice none 0 0, .slice none 0 0]) ?_ 4 _ rfl; refine blk_put (cs := #[.int .i64 o, .slice B1 l1.length d1, .int .u32 nx, .int .i64 0, .int .i64 0, .slice none 0 0, .slice none 0 0]) ?_ 3 _ rfl; refine blk_put (cs := #[.int .i64 o, .slice B1 l1.length d1, .int .u32 0, .int .i64 0, .int .i64 0, .slice none 0 0, .slice none 0 0]) ?_ 2 _ rfl; refine blk_put (cs := #[.int .i64 o, .slice none 0 0, .int .u32 0, .int .i64 0, .int .i64 0, .slice none 0 0, .slice none 0 0]) ?_ 1 _ rfl; refine blk_put (cs := #[.int .i64 0, .slice none 0 0, .int .u32 0, .int .i64 0, .int .i64 0, .slice none 0 0, .slice none 0 0]) ?_ 0 _ rfl; refine blk_far ?_ (show g2 ≠ g1 from by have := GE2.out; omega) _; exact BK2C.out)
      have HE1 := Aside0.mk (Kd.R_mono (ok' := fun k => w.heap.size ≤ k) (Kd.R_lower (base' := w.heap.size) (Kd.R_far (p := ⟨g2, 6, none⟩) (Kd.R_far (p := ⟨g2, 5, none⟩) (Kd.R_far (p := ⟨g2, 4, none⟩) (Kd.R_far (p := ⟨g2, 3, none⟩) (Kd.R_far (p := ⟨g2, 2, none⟩) (Kd.R_far (p := ⟨g2, 1, none⟩) (Kd.R_far (p := ⟨g2, 0, none⟩) (Kd.R_far (p := ⟨g1, 6, none⟩) (HF1C.out) (fun k hk => by have := GE2.out; show k ≠ g1; omega) (.slice BL l6.length l6.length)) (fun k hk => by show k ≠ g2; omega) (.int .i64 o)) (fun k hk => by show k ≠ g2; omega) (.slice B1 l1.length d1)) (fun k hk => by show k ≠ g2; omega) (.int .u32 nx)) (fun k hk => by show k ≠ g2; omega) (.int .i64 md)) (fun k hk => by show k ≠ g2; omega) (.int .i64 pr)) (fun k hk => by show k ≠ g2; omega) (.slice B5 l5.length l5.length)) (fun k hk => by show k ≠ g2; omega) (.slice BL l6.length l6.length)) (by have := GE1.out; have := GE2.out; omega)) (fun k hk => by have := GE1.out; have := GE2.out; omega))
      have HE5 := Aside0.mk (Kd.R_mono (ok' := fun k => w.heap.size ≤ k) (Kd.R_lower (base' := w.heap.size) (Kd.R_far (p := ⟨g2, 6, none⟩) (Kd.R_far (p := ⟨g2, 5, none⟩) (Kd.R_far (p := ⟨g2, 4, none⟩) (Kd.R_far (p := ⟨g2, 3, none⟩) (Kd.R_far (p := ⟨g2, 2, none⟩) (Kd.R_far (p := ⟨g2, 1, none⟩) (Kd.R_far (p := ⟨g2, 0, none⟩) (Kd.R_far (p := ⟨g1, 6, none⟩) (HF5C.out) (fun k hk => by have := GE2.out; show k ≠ g1; omega) (.slice BL l6.length l6.length)) (fun k hk => by show k ≠ g2; omega) (.int .i64 o)) (fun k hk => by show k ≠ g2; omega) (.slice B1 l1.length d1)) (fun k hk => by show k ≠ g2; omega) (.int .u32 nx)) (fun k hk => by show k ≠ g2; omega) (.int .i64 md)) (fun k hk => by show k ≠ g2; omega) (.int .i64 pr)) (fun k hk => by show k ≠ g2; omega) (.slice B5 l5.length l5.length)) (fun k hk => by show k ≠ g2; omega) (.slice BL l6.length l6.length)) (by have := GE1.out; have := GE2.out; omega)) (fun k hk => by have := GE1.out; have := GE2.out; omega))
      have HE6 := Aside0.mk (Kd.R_mono (ok' := fun k => w.heap.size ≤ k) (Kd.R_lower (base' := w.heap.size) (Kd.R_far (p := ⟨g2, 6, none⟩) (Kd.R_far (p := ⟨g2, 5, none⟩) (Kd.R_far (p := ⟨g2, 4, none⟩) (Kd.R_far (p := ⟨g2, 3, none⟩) (Kd.R_far (p := ⟨g2, 2, none⟩) (Kd.R_far (p := ⟨g2, 1, none⟩) (Kd.R_far (p := ⟨g2, 0, none⟩) (Kd.R_far (p := ⟨g1, 6, none⟩) (HFLC.out) (fun k hk => by have := GE2.out; show k ≠ g1; omega) (.slice BL l6.length l6.length)) (fun k hk => by show k ≠ g2; omega) (.int .i64 o)) (fun k hk => by show k ≠ g2; omega) (.slice B1 l1.length d1)) (fun k hk => by show k ≠ g2; omega) (.int .u32 nx)) (fun k hk => by show k ≠ g2; omega) (.int .i64 md)) (fun k hk => by show k ≠ g2; omega) (.int .i64 pr)) (fun k hk => by show k ≠ g2; omega) (.slice B5 l5.length l5.length)) (fun k hk => by show k ≠ g2; omega) (.slice BL l6.length l6.length)) HLE6.out) (fun k hk => by have := GE1.out; have := GE2.out; omega))
      have HEB := Aside0.mk (Below.setCell (p := ⟨g2, 6, none⟩) (Below.setCell (p := ⟨g2, 5, none⟩) (Below.setCell (p := ⟨g2, 4, none⟩) (Below.setCell (p := ⟨g2, 3, none⟩) (Below.setCell (p := ⟨g2, 2, none⟩) (Below.setCell (p := ⟨g2, 1, none⟩) (Below.setCell (p := ⟨g2, 0, none⟩) (Below.setCell (p := ⟨g1, 6, none⟩) (HBC.out) GE1.out (.slice BL l6.length l6.length)) (show w.heap.size ≤ g2 from by have := GE1.out; have := GE2.out; omega) (.int .i64 o)) (show w.heap.size ≤ g2 from by have := GE1.out; have := GE2.out; omega) (.slice B1 l1.length d1)) (show w.heap.size ≤ g2 from by have := GE1.out; have := GE2.out; omega) (.int .u32 nx)) (show w.heap.size ≤ g2 from by have := GE1.out; have := GE2.out; omega) (.int .i64 md)) (show w.heap.size ≤ g2 from by have := GE1.out; have := GE2.out; omega) (.int .i64 pr)) (show w.heap.size ≤ g2 from by have := GE1.out; have := GE2.out; omega) (.slice B5 l5.length l5.length)) (show w.heap.size ≤ g2 from by have := GE1.out; have := GE2.out; omega) (.slice BL l6.length l6.length))
      generalize ((((((((wc.setCell ⟨g1, 6, none⟩ (.slice BL l6.length l6.length)).setCell ⟨g2, 0, none⟩ (.int .i64 o)).setCell ⟨g2, 1, none⟩ (.slice B1 l1.length d1)).setCell ⟨g2, 2, none⟩ (.int .u32 nx)).setCell ⟨g2, 3, none⟩ (.int .i64 md)).setCell ⟨g2, 4, none⟩ (.int .i64 pr)).setCell ⟨g2, 5, none⟩ (.slice B5 l5.length l5.length)).setCell ⟨g2, 6, none⟩ (.slice BL l6.length l6.length)) = wF at BKF HE1 HE5 HE6 HEB ⊢
      refine bodyPost_ret (results_cell_row rfl _ _ g2 34 #[.int .i64 o, .slice B1 l1.length d1, .int .u32 nx, .int .i64 md, .int .i64 pr, .slice B5 l5.length l5.length, .slice BL l6.length l6.length] (0, 0) _ rfl BKF.out Try.underlying34 rfl (by kernel_rfl)) rfl ?_
      exact ⟨B1, d1, d1', B5, d5, BL, dL, rfl, HL1.out, HE1.out, HE5.out, HE6.out, HEB.out⟩
theorem new_ge {v : Value} {n : Nat} (h : ∃ b, v.ownBlock = some b ∧ n ≤ b) : ∀ k, v.ownBlock = some k → n ≤ k := fun k hk => by
  obtain ⟨b, hb, hle⟩ := h
  rw [hk] at hb
  injection hb with hb
  omega
theorem kc_mk {w : World} {base : Nat} {ok : Nat → Prop} {b : Bool} {xs : List Int} {A : Option Addr} {n c c' : Nat} (hl : n ≤ c) (h : (Kd.int .i64).R 3 w base ok (.slice A n c') xs) : kc69.M w base ok (⟨b, xs⟩ : S69) [.bool b, .slice A n c] := ⟨[.bool b], [.slice A n c], rfl, rfl, A, n, c, c', rfl, hl, h⟩
/-- A path with a number ahead. -/
def prependV (l : List S69) (a : Int) : List S69 :=
  match l with
  | [] => [⟨false, [a]⟩]
  | s :: r => if s.f0 = true ∨ 255 ≤ s.f1.length then ⟨false, [a]⟩ :: s :: r else ⟨s.f0, a :: s.f1⟩ :: r
theorem prependV_new {l : List S69} (a : Int) (h : l = [] ∨ (l.getD 0 z69).f0 = true ∨ 255 ≤ (l.getD 0 z69).f1.length) : prependV l a = [⟨false, [a]⟩] ++ l := by
  cases l with
  | nil => rfl
  | cons s r =>
    show (if s.f0 = true ∨ 255 ≤ s.f1.length then _ else _ : List S69) = _
    rw [if_pos (by simpa using h)]
    rfl
theorem prependV_in {l : List S69} (a : Int) (hl : 0 < l.length) (h0 : (l.getD 0 z69).f0 = false) (h1 : ¬ 255 ≤ (l.getD 0 z69).f1.length) : prependV l a = l.set 0 ⟨(l.getD 0 z69).f0, [a] ++ (l.getD 0 z69).f1⟩ := by
  cases l with
  | nil => simp at hl
  | cons s r =>
    show (if s.f0 = true ∨ 255 ≤ s.f1.length then _ else _ : List S69) = _
    have h0' : s.f0 = false := h0
    have h1' : ¬ 255 ≤ s.f1.length := h1
    rw [if_neg (by rw [h0']; simp; omega)]
    rfl
section
variable {α : Type} {d : Kd α} {e : Nat} {w : World} {base : Nat} {ok : Nat → Prop} {xs : List α}
/-- The elements of a row of the call's own, as an append reads them. -/
theorem R_readsM {A : Option Addr} {n c : Nat} (h : d.R e w base ok (.slice A n c) xs) : ReadsRow (d.M w base ok) d.sz w A n xs := by
  have hn : n = xs.length := (Kd.R_reads' h).1
  obtain ⟨A', c', he', _, hrow⟩ := OwnRow.reads h.2
  injection he' with hA' _ _
  subst hA' hn
  exact hrow.imp_ (Below.refl _ _) (fun _ _ hp => d.M_mono (fun _ hk => hk.1) hp)
end
/-- The first segment of a path of the call's own. -/
theorem own_first {w : World} {base : Nat} {ok : Nat → Prop} {A : Option Addr} {n c : Nat} {l : List S69} (h : kc69.R 69 w base ok (.slice A n c) l) (hl : 0 < l.length) : ∃ g A1 m c1 c1', A = some ⟨g, 0, none⟩ ∧ (∃ cells, w.heap[g]? = some (.cells cells 69 (0, 0))) ∧ w.cell? ⟨g, 0, none⟩ = some (.bool (l.getD 0 z69).f0) ∧ w.cell? ⟨g, 1, none⟩ = some (.slice A1 m c1) ∧ m ≤ c1 ∧ (Kd.int .i64).R 3 w base (fun k => ok k ∧ some k ≠ (Value.slice A n c).ownBlock) (.slice A1 m c1') (l.getD 0 z69).f1 := by
  have hn : n = l.length := (Kd.R_reads' h).1
  obtain ⟨g, cs, hA, _, hcells, _, ⟨c0, c1, rfl, p0, p1⟩, hc⟩ := R_get h z69 0 (by omega) (by omega)
  obtain ⟨A1, m, c1, c1', rfl, hle, hr⟩ := p1
  have p0' : c0 = [.bool (l.getD 0 z69).f0] := p0
  subst p0'
  have hc' : ∀ j u, ([.bool (l.getD 0 z69).f0, .slice A1 m c1] : List Value)[j]? = some u → w.cell? ((⟨g, 0, none⟩ : Addr).add (0 * 2 + j)) = some u := hc
  refine ⟨g, A1, m, c1, c1', hA, hcells, ?_, ?_, hle, hr⟩
  · have := hc' 0 _ rfl
    simpa [Addr.add] using this
  · have := hc' 1 _ rfl
    simpa [Addr.add] using this
theorem kc_fit (v : Value) : 1 + ([v] : List Value).length ≤ kc69.sz := Nat.le_refl 2
theorem R_Cm {α : Type} {d : Kd α} {e : Nat} {w : World} {base : Nat} {ok : Nat → Prop} {A : Option Addr} {n c : Nat} {xs : List α} (h : d.R e w base ok (.slice A n c) xs) : d.C w A n xs := by
  have h2 := Kd.R_reads' h
  rw [h2.1]
  exact h2.2.2
theorem two_cells {w : World} {g : Nat} {u0 u1 : Value} (h0 : w.cell? ⟨g, 0, none⟩ = some u0) (h1 : w.cell? ⟨g, 1, none⟩ = some u1) : ∀ (j : Nat) (u : Value), ([u0, u1] : List Value)[j]? = some u → w.cell? ⟨g, (0 : Int).toNat * 2 + j, none⟩ = some u := by
  intro j u h
  match j with
  | 0 =>
    injection h with h
    subst h
    simpa using h0
  | 1 =>
    injection h with h
    subst h
    simpa using h1
  | j + 2 => simp at h
theorem prependV_len (l : List S69) (a : Int) : (prependV l a).length ≤ l.length + 1 := by
  unfold prependV
  split
  · simp
  · split <;> simp
set_option maxHeartbeats 4000000 in
set_option maxRecDepth 100000 in
theorem path_prepend (A1 : Option Addr) (c1 : Nat) (l1 : List S69) (a : Int) (w : World) (hr1 : Kd.C k69 w A1 l1.length l1) (hc1 : l1.length ≤ c1) (h4 : l1.length < 4000) (hd : ∀ y ∈ l1, slices_Clone_int_int.f y.f1 = some y.f1) (h5 : ∀ y ∈ l1, y.f1.length < 4000) :
    Calls Try.prog 25 #[.slice A1 l1.length c1, .int .i64 a] w fun e w' => ∃ Q n q q', e = .returned (.slice Q n q) ∧ n = (prependV l1 a).length ∧ n ≤ q ∧ Kd.R kc69 69 w' w.heap.size (fun k => w.heap.size ≤ k) (.slice Q n q') (prependV l1 a) ∧ Below w.heap.size w w' := by
  have HR1 := Aside0.mk hr1
  have HC := Aside0.mk hc1
  have H4 := Aside0.mk h4
  have H5 := Aside0.mk h5
  have HD := Aside0.mk hd
  have hu69 := Try.underlying69
  have HB := Aside0.mk (Below.refl w.heap.size w)
  obtain ⟨y, hy⟩ : ∃ y : List Int, y = [a] := ⟨_, rfl⟩
  obtain ⟨y2, hy2⟩ : ∃ y2 : List S69, y2 = [⟨false, y⟩] := ⟨_, rfl⟩
  obtain ⟨y3, hy3⟩ : ∃ y3 : List S69, y3 = y2 ++ l1 := ⟨_, rfl⟩
  have LY := Aside0.mk (show y.length = 1 by rw [hy]; rfl)
  have LY2 := Aside0.mk (show y2.length = 1 by rw [hy2]; rfl)
  have NY := Aside0.mk hy
  have NY2 := Aside0.mk hy2
  have NY3 := Aside0.mk hy3
  clear hr1 hc1 h4 hd h5 hy hy2 hy3
  go_enter Try.func25, Try.ntmps25
  go_upto_region 2 with (first | (go_at_call 41; with_reducible refine (path_own A1 c1 l1 _ HR1.out HC.out H4.out HD.out).mono ?_; rintro e w1 ⟨B, d, d', rfl, hl, hq, hb⟩; have HL := Aside0.mk hl; have HQ := Aside0.mk hq; have HB1 := Aside0.mk hb; clear hl hq hb))
  by_cases h0 : l1.length = 0
  · have H0 := Aside0.mk h0
    have e0 : ((l1.length : Int) == 0) = true := by rw [h0]; rfl
    have e1 : (l1.length == 0) = true := by rw [h0]; rfl
    clear h0
    go_wp2_with (first | ((with_reducible refine gate_dst (N := 26) rfl ?_); refine Kd.R_lit (Kd.int .i64) _ 3 ?hg (N := 26) ?hd (xs := ([a] : List Int)) (inner := [.int .i64 a]) (ok := fun _ => True) (okp := fun _ => True) ?hr ?hp (fun _ hk => hk) trivial (Below.refl _ _) (Nat.le_refl _) (by simp) ?_; (case hd => rfl); (case hg => rfl); (case hr => first | (go_simp; done) | (go_simp; rfl) | (go_simp; simp [IntKind.wrap_u8, IntKind.wrap_u32]; done)); (case hp => exact (Reps.one (show Kd.M (Kd.int .i64) _ _ _ a [.int .i64 a] from rfl) (Reps.none _ _))); intro v1 w2 ho hb hg_ hnew_; clear hg_ hnew_; rw [← NY.out] at ho; have HA2 := Aside0.mk (Kd.R_mono (ok' := (fun k => w.heap.size ≤ k)) (Kd.R_lower (Kd.R_bound ho) HB1.out.size) (fun k hk => Nat.le_trans HB1.out.size hk.2.1)); have HQ2 := Aside0.mk (Kd.R_below HQ.out hb); obtain ⟨Ao, co, eo⟩ := Kd.R_slice HA2.out; subst eo; have HB2 := Aside0.mk (below_step HB1.out hb); clear ho hb) | ((with_reducible refine gate_dst (N := 28) rfl ?_); refine Kd.R_lit kc69 (w0 := w) w.heap.size 69 ?hg (N := 28) ?hd (xs := ([⟨false, y⟩] : List S69)) (inner := [.bool false, .slice Ao y.length co]) (ok := (fun k => w.heap.size ≤ k)) (okp := (fun k => w.heap.size ≤ k)) ?hr ?hp (fun _ hk => hk) HB2.out.size HB2.out HB2.out.size (by simp) ?_; (case hd => rfl); (case hg => rfl); (case hr => first | (go_simp; done) | (go_simp; rfl) | (go_simp; simp [IntKind.wrap_u8, IntKind.wrap_u32]; done)); (case hp => exact (Reps.c2 (show kc69.M _ _ _ (⟨false, y⟩ : S69) [.bool false, .slice Ao y.length co] from kc_mk (Kd.R_reads' HA2.out).2.1 HA2.out) (Reps.none _ _))); intro v2 w3 ho hb hg_ hnew_; rw [← NY2.out] at ho; have HQ3 := Aside0.mk (Kd.R_elder' HQ2.out (new_ge hnew_) ((Below.refl _ _).grown hg_ (Nat.le_refl _) (fun k e => by cases e))); have HL3 := Aside0.mk ho; have HB3 := Aside0.mk hb; clear ho hb hg_ hnew_) | ((with_reducible refine gate_builtin (b := .append) (xs := #[.tmp 28, .tmp 29]) rfl ?_); at_builtin; refine Kd.R_append_rows kc69 (w0 := w) w.heap.size rfl (.tmp 28) (.tmp 29) 30 69 (.agg #[.bool false, .slice none 0 0]) 32 rfl Try.underlying30 infoSeg rfl (by decide) (by omega) v2 y2 l1 B l1.length d (fun k => w.heap.size ≤ k) (fun k => w.heap.size ≤ k ∧ some k ≠ v2.ownBlock) rfl rfl HL3.out (R_readsM HQ3.out) (fun _ _ h => h) (fun _ hk => hk) (fun _ hk => Nat.le_trans HB3.out.size hk) HB3.out HB3.out.size (by have := H4.out; have := LY2.out; omega) ?_; intro v3 w4 ho hb hg hat; rw [← NY3.out] at ho; obtain ⟨Qo, cq, eq_⟩ := Kd.R_slice ho; subst eq_; have HF4 := Aside0.mk ho; have HB4 := Aside0.mk hb; clear ho hb hg hat))
    go_ret
    exact ⟨Qo, _, cq, cq, rfl, by rw [prependV_new a (Or.inl (List.length_eq_zero_iff.mp H0.out)), NY3.out, NY2.out, NY.out], (Kd.R_reads' HF4.out).2.1, by rw [prependV_new a (Or.inl (List.length_eq_zero_iff.mp H0.out)), ← NY.out, ← NY2.out, ← NY3.out]; exact HF4.out, HB4.out⟩
  · have e0 : ((l1.length : Int) == 0) = false := beq_eq_false_iff_ne.mpr (by omega)
    have e1 : (l1.length == 0) = false := beq_eq_false_iff_ne.mpr h0
    have H0 := Aside0.mk h0
    obtain ⟨g, F1, m, f1, f1', hB, hcells, hx0, hx1, hmf, hri⟩ := own_first HQ.out (by omega)
    obtain ⟨cells, hcells⟩ := hcells
    subst hB
    have HG := Aside0.mk hcells
    have HMF := Aside0.mk hmf
    have HRI := Aside0.mk hri
    have HLM := Aside0.mk (Kd.R_reads' hri).1
    have q0 : (0 < (l1.length : Int)) = True := eq_true (by omega)
    have q1 : (0 < l1.length) = True := eq_true (by omega)
    clear hcells hmf hri h0
    obtain ⟨s0, hs0⟩ : ∃ s0, l1.getD 0 z69 = s0 := ⟨_, rfl⟩
    have HS := Aside0.mk hs0
    rw [hs0] at hx0
    rw [hs0] at HRI HLM
    rcases hf : s0.f0 with _ | _
    · rw [hf] at hx0
      have HF0 := Aside0.mk hf
      by_cases h255 : 255 ≤ m
      · have cg : decide ((255 : Int) ≤ (m : Int)) = true := decide_eq_true (by omega)
        have cg1 : decide (255 ≤ m) = true := decide_eq_true h255
        have H255 := Aside0.mk h255
        clear hf h255 hs0
        go_wp2_with (first | ((with_reducible refine gate_dst (N := 26) rfl ?_); refine Kd.R_lit (Kd.int .i64) _ 3 ?hg (N := 26) ?hd (xs := ([a] : List Int)) (inner := [.int .i64 a]) (ok := fun _ => True) (okp := fun _ => True) ?hr ?hp (fun _ hk => hk) trivial (Below.refl _ _) (Nat.le_refl _) (by simp) ?_; (case hd => rfl); (case hg => rfl); (case hr => first | (go_simp; done) | (go_simp; rfl) | (go_simp; simp [IntKind.wrap_u8, IntKind.wrap_u32]; done)); (case hp => exact (Reps.one (show Kd.M (Kd.int .i64) _ _ _ a [.int .i64 a] from rfl) (Reps.none _ _))); intro v1 w2 ho hb hg_ hnew_; clear hg_ hnew_; rw [← NY.out] at ho; have HA2 := Aside0.mk (Kd.R_mono (ok' := (fun k => w.heap.size ≤ k)) (Kd.R_lower (Kd.R_bound ho) HB1.out.size) (fun k hk => Nat.le_trans HB1.out.size hk.2.1)); have HQ2 := Aside0.mk (Kd.R_below HQ.out hb); obtain ⟨Ao, co, eo⟩ := Kd.R_slice HA2.out; subst eo; have HB2 := Aside0.mk (below_step HB1.out hb); clear ho hb) | ((with_reducible refine gate_dst (N := 28) rfl ?_); refine Kd.R_lit kc69 (w0 := w) w.heap.size 69 ?hg (N := 28) ?hd (xs := ([⟨false, y⟩] : List S69)) (inner := [.bool false, .slice Ao y.length co]) (ok := (fun k => w.heap.size ≤ k)) (okp := (fun k => w.heap.size ≤ k)) ?hr ?hp (fun _ hk => hk) HB2.out.size HB2.out HB2.out.size (by simp) ?_; (case hd => rfl); (case hg => rfl); (case hr => first | (go_simp; done) | (go_simp; rfl) | (go_simp; simp [IntKind.wrap_u8, IntKind.wrap_u32]; done)); (case hp => exact (Reps.c2 (show kc69.M _ _ _ (⟨false, y⟩ : S69) [.bool false, .slice Ao y.length co] from kc_mk (Kd.R_reads' HA2.out).2.1 HA2.out) (Reps.none _ _))); intro v2 w3 ho hb hg_ hnew_; rw [← NY2.out] at ho; have HQ3 := Aside0.mk (Kd.R_elder' HQ2.out (new_ge hnew_) ((Below.refl _ _).grown hg_ (Nat.le_refl _) (fun k e => by cases e))); have HL3 := Aside0.mk ho; have HB3 := Aside0.mk hb; clear ho hb hg_ hnew_) | ((with_reducible refine gate_builtin (b := .append) (xs := #[.tmp 28, .tmp 29]) rfl ?_); at_builtin; refine Kd.R_append_rows kc69 (w0 := w) w.heap.size rfl (.tmp 28) (.tmp 29) 30 69 (.agg #[.bool false, .slice none 0 0]) 32 rfl Try.underlying30 infoSeg rfl (by decide) (by omega) v2 y2 l1 (some ⟨g, 0, none⟩) l1.length d (fun k => w.heap.size ≤ k) (fun k => w.heap.size ≤ k ∧ some k ≠ v2.ownBlock) rfl rfl HL3.out (R_readsM HQ3.out) (fun _ _ h => h) (fun _ hk => hk) (fun _ hk => Nat.le_trans HB3.out.size hk) HB3.out HB3.out.size (by have := H4.out; have := LY2.out; omega) ?_; intro v3 w4 ho hb hg hat; rw [← NY3.out] at ho; obtain ⟨Qo, cq, eq_⟩ := Kd.R_slice ho; subst eq_; have HF4 := Aside0.mk ho; have HB4 := Aside0.mk hb; clear ho hb hg hat))
        go_ret
        exact ⟨Qo, _, cq, cq, rfl, by rw [prependV_new a (Or.inr (Or.inr (by rw [HS.out, ← HLM.out]; exact H255.out))), NY3.out, NY2.out, NY.out], (Kd.R_reads' HF4.out).2.1, by rw [prependV_new a (Or.inr (Or.inr (by rw [HS.out, ← HLM.out]; exact H255.out))), ← NY.out, ← NY2.out, ← NY3.out]; exact HF4.out, HB4.out⟩
      · have cg : decide ((255 : Int) ≤ (m : Int)) = false := decide_eq_false (by omega)
        have cg1 : decide (255 ≤ m) = false := decide_eq_false h255
        have H255 := Aside0.mk h255
        have HM0 := Aside0.mk (show s0 ∈ l1 from by rw [← hs0, List.getD_eq_getElem?_getD, List.getElem?_eq_getElem (by have := H0.out; omega)]; exact List.getElem_mem _)
        clear hf h255 hs0
        have HM5 := Aside0.mk (show m < 4000 from by rw [HLM.out]; exact H5.out _ HM0.out)
        have HRC := Aside0.mk (R_Cm HRI.out)
        obtain ⟨z1, hz1⟩ : ∃ z1 : List Int, z1 = y ++ s0.f1 := ⟨_, rfl⟩
        have NZ := Aside0.mk hz1
        clear hz1
        go_wp2_with (first | ((with_reducible refine gate_dst (N := 33) rfl ?_); refine Kd.R_lit (Kd.int .i64) _ 3 ?hg (N := 33) ?hd (xs := ([a] : List Int)) (inner := [.int .i64 a]) (ok := fun _ => True) (okp := fun _ => True) ?hr ?hp (fun _ hk => hk) trivial (Below.refl _ _) (Nat.le_refl _) (by simp) ?_; (case hd => rfl); (case hg => rfl); (case hr => first | (go_simp; done) | (go_simp; rfl) | (go_simp; simp [IntKind.wrap_u8, IntKind.wrap_u32]; done)); (case hp => exact (Reps.one (show Kd.M (Kd.int .i64) _ _ _ a [.int .i64 a] from rfl) (Reps.none _ _))); intro v1 w2 ho hb hg_ hnew_; clear hg_ hnew_; rw [← NY.out] at ho; have HA2 := Aside0.mk (Kd.R_mono (ok' := (fun k => w.heap.size ≤ k)) (Kd.R_lower (Kd.R_bound ho) HB1.out.size) (fun k hk => Nat.le_trans HB1.out.size hk.2.1)); have HQ2 := Aside0.mk (Kd.R_elder' HQ.out (Kd.R_base ho) hb); have HG2 := Aside0.mk ((hb.block _ (blk_lt HG.out)).trans HG.out); have HC2 := Aside0.mk (Kd.C_below HRC.out hb); replace hx0 := (hb.cell (World.block_lt_of_cell? _ _ hx0)).trans hx0; replace hx1 := (hb.cell (World.block_lt_of_cell? _ _ hx1)).trans hx1; have HB2 := Aside0.mk (below_step HB1.out hb); clear ho hb) | ((with_reducible refine gate_builtin (b := .append) (xs := #[.tmp 33, .tmp 37]) rfl ?_); at_builtin; refine Kd.R_append_rows (Kd.int .i64) (w0 := w) w.heap.size rfl (.tmp 33) (.tmp 37) 67 3 (.int .i64 0) 8 rfl Try.underlying67 (show (Try.prog.info? 3).map (fun i => (i.zero, i.size, i.bytes)) = some (some (.int .i64 0), 1, 8) from by kernel_rfl) rfl (by decide) (by omega) v1 y s0.f1 F1 m f1 (fun k => w.heap.size ≤ k) (fun _ => False) rfl rfl HA2.out HC2.out (fun _ _ h => h) (fun _ hk => hk.elim) (fun _ hk => Nat.le_trans HB2.out.size hk) HB2.out HB2.out.size (by have := HM5.out; have := LY.out; omega) ?_; intro v3 w3 ho hb hg hat; rw [← NZ.out] at ho; have hne := Kd.R_ne HA2.out HG2.out (by decide); have HG3 := Aside0.mk ((hg.block _ (blk_lt HG2.out) hne).trans HG2.out); have HX0 := Aside0.mk (cell_grown hg hx0 hne); have HX1 := Aside0.mk (cell_grown hg hx1 hne); have HQ3 := Aside0.mk (Kd.R_mono (ok' := (fun k => w.heap.size ≤ k)) (Kd.R_grown HQ2.out hg (fun k hk => hk.2)) (fun k hk => hk.1)); have HB3 := Aside0.mk hb; have HNG := Aside0.mk (Kd.R_ne ho HG3.out (by decide)); obtain ⟨Qi, qi, eqi⟩ := Kd.R_slice ho; subst eqi; have HZ3 := Aside0.mk ho; have HMZ := Aside0.mk (kc_mk (b := false) (Kd.R_reads' ho).2.1 (Kd.R_tight2 rfl ho)); clear ho hb hg hat hne hx0 hx1) | ((with_reducible refine gate_store (t := 67) (p := 40) rfl ?_); refine Kd.R_store kc69 (w0 := w) w.heap.size rfl rfl 67 (.tmp 40) (.tmp 38) rfl 69 (g := g) (n := l1.length) (cap := d') 0 1 l1 (⟨false, z1⟩ : S69) _ [.slice Qi z1.length qi] [.bool false, .slice F1 m f1] (fun k => w.heap.size ≤ k) (fun k => some k = (Value.slice Qi z1.length qi).ownBlock ∧ w.heap.size ≤ k) rfl rfl rfl rfl (by kernel_rfl) (by intro q hq; rw [List.mem_singleton.1 hq]; rfl) HQ3.out (by omega) (by have := H0.out; omega) rfl (two_cells HX0.out HX1.out) (kc_fit _) HMZ.out (fun k hk => ⟨hk.2, fun e => HNG.out (by rw [← e]; exact hk.1)⟩) HB3.out ?_; intro w4 ho hb hg; have HF4 := Aside0.mk ho; have HB4 := Aside0.mk hb; clear ho hb hg))
        go_ret
        exact ⟨some ⟨g, 0, none⟩, l1.length, d, d', rfl, by rw [prependV_in a (by have := H0.out; omega) (by rw [HS.out]; exact HF0.out) (by rw [HS.out, ← HLM.out]; exact H255.out), List.length_set], HL.out, by rw [prependV_in a (by have := H0.out; omega) (by rw [HS.out]; exact HF0.out) (by rw [HS.out, ← HLM.out]; exact H255.out), HS.out, HF0.out, ← NY.out, ← NZ.out]; exact HF4.out, HB4.out⟩
    · rw [hf] at hx0
      have HF0 := Aside0.mk hf
      clear hf hs0
      go_wp2_with (first | ((with_reducible refine gate_dst (N := 26) rfl ?_); refine Kd.R_lit (Kd.int .i64) _ 3 ?hg (N := 26) ?hd (xs := ([a] : List Int)) (inner := [.int .i64 a]) (ok := fun _ => True) (okp := fun _ => True) ?hr ?hp (fun _ hk => hk) trivial (Below.refl _ _) (Nat.le_refl _) (by simp) ?_; (case hd => rfl); (case hg => rfl); (case hr => first | (go_simp; done) | (go_simp; rfl) | (go_simp; simp [IntKind.wrap_u8, IntKind.wrap_u32]; done)); (case hp => exact (Reps.one (show Kd.M (Kd.int .i64) _ _ _ a [.int .i64 a] from rfl) (Reps.none _ _))); intro v1 w2 ho hb hg_ hnew_; clear hg_ hnew_; rw [← NY.out] at ho; have HA2 := Aside0.mk (Kd.R_mono (ok' := (fun k => w.heap.size ≤ k)) (Kd.R_lower (Kd.R_bound ho) HB1.out.size) (fun k hk => Nat.le_trans HB1.out.size hk.2.1)); have HQ2 := Aside0.mk (Kd.R_below HQ.out hb); obtain ⟨Ao, co, eo⟩ := Kd.R_slice HA2.out; subst eo; have HB2 := Aside0.mk (below_step HB1.out hb); clear ho hb) | ((with_reducible refine gate_dst (N := 28) rfl ?_); refine Kd.R_lit kc69 (w0 := w) w.heap.size 69 ?hg (N := 28) ?hd (xs := ([⟨false, y⟩] : List S69)) (inner := [.bool false, .slice Ao y.length co]) (ok := (fun k => w.heap.size ≤ k)) (okp := (fun k => w.heap.size ≤ k)) ?hr ?hp (fun _ hk => hk) HB2.out.size HB2.out HB2.out.size (by simp) ?_; (case hd => rfl); (case hg => rfl); (case hr => first | (go_simp; done) | (go_simp; rfl) | (go_simp; simp [IntKind.wrap_u8, IntKind.wrap_u32]; done)); (case hp => exact (Reps.c2 (show kc69.M _ _ _ (⟨false, y⟩ : S69) [.bool false, .slice Ao y.length co] from kc_mk (Kd.R_reads' HA2.out).2.1 HA2.out) (Reps.none _ _))); intro v2 w3 ho hb hg_ hnew_; rw [← NY2.out] at ho; have HQ3 := Aside0.mk (Kd.R_elder' HQ2.out (new_ge hnew_) ((Below.refl _ _).grown hg_ (Nat.le_refl _) (fun k e => by cases e))); have HL3 := Aside0.mk ho; have HB3 := Aside0.mk hb; clear ho hb hg_ hnew_) | ((with_reducible refine gate_builtin (b := .append) (xs := #[.tmp 28, .tmp 29]) rfl ?_); at_builtin; refine Kd.R_append_rows kc69 (w0 := w) w.heap.size rfl (.tmp 28) (.tmp 29) 30 69 (.agg #[.bool false, .slice none 0 0]) 32 rfl Try.underlying30 infoSeg rfl (by decide) (by omega) v2 y2 l1 (some ⟨g, 0, none⟩) l1.length d (fun k => w.heap.size ≤ k) (fun k => w.heap.size ≤ k ∧ some k ≠ v2.ownBlock) rfl rfl HL3.out (R_readsM HQ3.out) (fun _ _ h => h) (fun _ hk => hk) (fun _ hk => Nat.le_trans HB3.out.size hk) HB3.out HB3.out.size (by have := H4.out; have := LY2.out; omega) ?_; intro v3 w4 ho hb hg hat; rw [← NY3.out] at ho; obtain ⟨Qo, cq, eq_⟩ := Kd.R_slice ho; subst eq_; have HF4 := Aside0.mk ho; have HB4 := Aside0.mk hb; clear ho hb hg hat))
      go_ret
      exact ⟨Qo, _, cq, cq, rfl, by rw [prependV_new a (Or.inr (Or.inl (by rw [HS.out]; exact HF0.out))), NY3.out, NY2.out, NY.out], (Kd.R_reads' HF4.out).2.1, by rw [prependV_new a (Or.inr (Or.inl (by rw [HS.out]; exact HF0.out))), ← NY.out, ← NY2.out, ← NY3.out]; exact HF4.out, HB4.out⟩
theorem self_x (cs : List Value) : ∀ (j : Nat) (v : Value), cs[j]? = some v → cs.toArray.toList[0 + j]? = some v := by
  intro j v h
  rw [Nat.zero_add]
  exact h
theorem seven_x (pa pl pe o : Int) (A1 : Option Addr) (n1 c1 : Nat) (nx md pr : Int) (A5 : Option Addr) (n5 c5 : Nat) (A6 : Option Addr) (n6 c6 : Nat) (st : Int) : ∀ (j : Nat) (v : Value), ([.int .i64 o, .slice A1 n1 c1, .int .u32 nx, .int .i64 md, .int .i64 pr, .slice A5 n5 c5, .slice A6 n6 c6] : List Value)[j]? = some v → (#[.int .u32 pa, .int .i64 pl, .int .i64 pe, .int .i64 o, .slice A1 n1 c1, .int .u32 nx, .int .i64 md, .int .i64 pr, .slice A5 n5 c5, .slice A6 n6 c6, .int .i64 st] : Array Value).toList[3 + j]? = some v := by
  intro j v h
  match j with
  | 0 => exact h
  | 1 => exact h
  | 2 => exact h
  | 3 => exact h
  | 4 => exact h
  | 5 => exact h
  | 6 => exact h
  | j + 7 => simp at h
/-- Is a route not told at all? -/
def stopB (cA tN tA : Int) (al ll : Bool) (pe st fr : Int) : Bool := (pe == tN) || ((decide (0 ≤ pe) && (fr == cA) && (tA == cA)) || (!al || ((st == 2) && !ll)))
/-- The attributes that would be told. -/
def outA (cA cN tA o : Int) (l1 : List S69) (nx md pr : Int) (l5 : List Int) (l6 : List S73) : Int × List S69 × Int × Int × Int × List Int × List S73 :=
  if tA = cA then (o, l1, nx, md, if pr = -1 then 100 else pr, l5, l6) else (o, prependV l1 cA, cN, -1, -1, l5, l6)
/-- What is told: the attributes, and whether. -/
def expV (stop good : Bool) (t : Int × List S69 × Int × Int × Int × List Int × List S73) : Int × List S69 × Int × Int × Int × List Int × List S73 × Bool :=
  if stop = true ∨ good = false then (0, [], 0, 0, 0, [], [], false) else (t.1, t.2.1, t.2.2.1, t.2.2.2.1, t.2.2.2.2.1, t.2.2.2.2.2.1, t.2.2.2.2.2.2, true)
/-- The rows of attributes of one's own memory. -/
def AttrsAt (w : World) (base : Nat) (ok : Nat → Prop) (B1 : Option Addr) (d1 : Nat) (l1 : List S69) (B5 : Option Addr) (d5 : Nat) (l5 : List Int) (B6 : Option Addr) (d6 : Nat) (l6 : List S73) : Prop :=
  Kd.R kc69 69 w base ok (.slice B1 l1.length d1) l1 ∧ Kd.R (Kd.int .u32) 22 w base ok (.slice B5 l5.length d5) l5 ∧ Kd.R k73 73 w base ok (.slice B6 l6.length d6) l6
section
variable {w w1 : World} {base : Nat} {ok ok' : Nat → Prop} {B1 : Option Addr} {d1 : Nat} {l1 : List S69} {B5 : Option Addr} {d5 : Nat} {l5 : List Int} {B6 : Option Addr} {d6 : Nat} {l6 : List S73}
theorem R_grownX {α : Type} {d : Kd α} {e g t : Nat} {v : Value} {xs : List α} {cells : Array Value} (h : d.R e w base ok v xs) (hg : w.grownBy w1 (some g)) (hb : w.heap[g]? = some (.cells cells t (0, 0))) (ht : ∀ q, q ∈ e :: d.E → q ≠ t) : d.R e w1 base ok v xs :=
  Kd.R_mono (Kd.R_grown (Kd.R_types h hb ht) hg (fun k hk e => hk.2 (by injection e))) (fun _ hk => hk.1)
theorem AttrsAt.below (h : AttrsAt w base ok B1 d1 l1 B5 d5 l5 B6 d6 l6) (hb : Below w.heap.size w w1) : AttrsAt w1 base ok B1 d1 l1 B5 d5 l5 B6 d6 l6 := ⟨Kd.R_below h.1 hb, Kd.R_below h.2.1 hb, Kd.R_below h.2.2 hb⟩
theorem AttrsAt.grown (h : AttrsAt w base ok B1 d1 l1 B5 d5 l5 B6 d6 l6) {g : Nat} {cells : Array Value} (hg : w.grownBy w1 (some g)) (hb : w.heap[g]? = some (.cells cells 34 (0, 0))) : AttrsAt w1 base ok B1 d1 l1 B5 d5 l5 B6 d6 l6 :=
  ⟨R_grownX h.1 hg hb (by decide), R_grownX h.2.1 hg hb (by decide), R_grownX h.2.2 hg hb (by decide)⟩
theorem AttrsAt.c1 (h : AttrsAt w base ok B1 d1 l1 B5 d5 l5 B6 d6 l6) : Kd.C k69 w B1 l1.length l1 := kc_C (Kd.R_reads' h.1).2.2
theorem AttrsAt.c5 (h : AttrsAt w base ok B1 d1 l1 B5 d5 l5 B6 d6 l6) : Kd.C (Kd.int .u32) w B5 l5.length l5 := (Kd.R_reads' h.2.1).2.2
theorem AttrsAt.c6 (h : AttrsAt w base ok B1 d1 l1 B5 d5 l5 B6 d6 l6) : Kd.C k73 w B6 l6.length l6 := (Kd.R_reads' h.2.2).2.2
end
theorem attrsAt_mk {w : World} {base : Nat} {ok : Nat → Prop} {B1 : Option Addr} {d1 : Nat} {l1 : List S69} {B5 : Option Addr} {d5 : Nat} {l5 : List Int} {B6 : Option Addr} {d6 : Nat} {l6 : List S73} (h1 : Kd.R kc69 69 w base ok (.slice B1 l1.length d1) l1) (h5 : Kd.R (Kd.int .u32) 22 w base ok (.slice B5 l5.length d5) l5) (h6 : Kd.R k73 73 w base ok (.slice B6 l6.length d6) l6) : AttrsAt w base ok B1 d1 l1 B5 d5 l5 B6 d6 l6 := ⟨h1, h5, h6⟩
theorem AttrsAt.set {w : World} {base : Nat} {ok : Nat → Prop} {B1 : Option Addr} {d1 : Nat} {l1 : List S69} {B5 : Option Addr} {d5 : Nat} {l5 : List Int} {B6 : Option Addr} {d6 : Nat} {l6 : List S73} (h : AttrsAt w base ok B1 d1 l1 B5 d5 l5 B6 d6 l6) {g : Nat} {cells : Array Value} (hb : w.heap[g]? = some (.cells cells 34 (0, 0))) (j : Nat) (u : Value) : AttrsAt (w.setCell ⟨g, j, none⟩ u) base ok B1 d1 l1 B5 d5 l5 B6 d6 l6 :=
  ⟨Kd.R_set h.1 hb (by decide) j u, Kd.R_set h.2.1 hb (by decide) j u, Kd.R_set h.2.2 hb (by decide) j u⟩
/-- What export.Export hands out: what is told, and whether. -/
def ToldAt (cl : Bool) (w : World) (v : Int × List S69 × Int × Int × Int × List Int × List S73 × Bool) (e : Ending) (w' : World) : Prop := ∃ (x0 : Int) (X1 : Option Addr) (y1 : Nat) (p1 : List S69) (x2 x3 x4 : Int) (X5 : Option Addr) (y5 : Nat) (p5 : List Int) (X6 : Option Addr) (y6 : Nat) (p6 : List S73) (xb : Bool), e = .returned (.tuple #[.agg #[.int .i64 x0, .slice X1 p1.length y1, .int .u32 x2, .int .i64 x3, .int .i64 x4, .slice X5 p5.length y5, .slice X6 p6.length y6], .bool xb]) ∧ (p1.length ≤ y1 ∧ p5.length ≤ y5 ∧ p6.length ≤ y6) ∧ Kd.C k69 w' X1 p1.length p1 ∧ Kd.C (Kd.int .u32) w' X5 p5.length p5 ∧ Kd.C k73 w' X6 p6.length p6 ∧ Below w.heap.size w w' ∧ v = (x0, p1, x2, x3, x4, p5, p6, xb) ∧ (cl = true → y5 = p5.length ∧ y6 = p6.length)
theorem ToldAt.zero {cl : Bool} {w w' : World} (hb : Below w.heap.size w w') : ToldAt cl w (0, [], 0, 0, 0, [], [], false) (.returned (.tuple #[.agg #[.int .i64 0, .slice none 0 0, .int .u32 0, .int .i64 0, .int .i64 0, .slice none 0 0, .slice none 0 0], .bool false])) w' :=
  ⟨0, none, 0, [], 0, 0, 0, none, 0, [], none, 0, [], false, rfl, ⟨Nat.le_refl _, Nat.le_refl _, Nat.le_refl _⟩, Kd.C_nil _ _, Kd.C_nil _ _, Kd.C_nil _ _, hb, rfl, fun _ => ⟨rfl, rfl⟩⟩
set_option maxHeartbeats 4000000 in
set_option maxRecDepth 100000 in
open Go.Proofs.Ytjdebhkdbdbepaa.Mid in
theorem export_told (k : Nat) (cA cI cN cH cG cL cS cD tN tA : Int) (AI : Option Addr) (nI cIn : Nat) (AO : Option Addr) (cOut : Nat) (lo : List S87) (ll : Bool) (pa pl pe o : Int) (A1 : Option Addr) (c1 : Nat) (l1 : List S69) (nx md pr : Int) (A5 : Option Addr) (c5 : Nat) (l5 : List Int) (A6 : Option Addr) (c6 : Nat) (l6 : List S73) (st fr : Int) (rp : Int) (al gd : Bool) (w : World) (hro : Kd.C k87 w AO lo.length lo) (hco : lo.length ≤ cOut) (hr1 : Kd.C k69 w A1 l1.length l1) (hc1 : l1.length ≤ c1) (hr5 : Kd.C (Kd.int .u32) w A5 l5.length l5) (hc5 : l5.length ≤ c5) (hr6 : Kd.C k73 w A6 l6.length l6) (hc6 : l6.length ≤ c6) (hp : policy_Apply.f lo pa pl = some (rp, al))
    (hgo : stopB cA tN tA al ll pe st fr = false → (l1.length < 4000 ∧ (∀ y ∈ l1, slices_Clone_int_int.f y.f1 = some y.f1) ∧ (∀ y ∈ l1, y.f1.length < 4000) ∧ slices_Clone_uint32_uint32.f l5 = some l5 ∧ l6.length < 4000 ∧ (∀ r ∈ l6, bytes_Clone.f r.f2 = some r.f2)) ∧ attr_Good.f k (outA cA cN tA o l1 nx md pr l5 l6).1 (outA cA cN tA o l1 nx md pr l5 l6).2.1 (outA cA cN tA o l1 nx md pr l5 l6).2.2.1 (outA cA cN tA o l1 nx md pr l5 l6).2.2.2.1 (outA cA cN tA o l1 nx md pr l5 l6).2.2.2.2.1 (outA cA cN tA o l1 nx md pr l5 l6).2.2.2.2.2.1 (outA cA cN tA o l1 nx md pr l5 l6).2.2.2.2.2.2 = some gd) (Qt : Ending → World → Prop) (hqt : ∀ e w', ToldAt true w (expV (stopB cA tN tA al ll pe st fr) gd (outA cA cN tA o l1 nx md pr l5 l6)) e w' → Qt e w') :
    Calls Try.prog 10 #[.agg #[.int .i64 cA, .int .u32 cI, .int .u32 cN, .int .i64 cH, .int .i64 cG, .int .i64 cL, .int .i64 cS, .int .i64 cD], .agg #[.int .i64 tN, .int .i64 tA, .slice AI nI cIn, .slice AO lo.length cOut], .bool ll, .agg #[.int .u32 pa, .int .i64 pl, .int .i64 pe, .int .i64 o, .slice A1 l1.length c1, .int .u32 nx, .int .i64 md, .int .i64 pr, .slice A5 l5.length c5, .slice A6 l6.length c6, .int .i64 st], .int .i64 fr] w Qt := by
  have HGO := Aside0.mk hgo
  have HQ_ := Aside0.mk hqt
  clear hgo hqt
  have HRO := Aside0.mk hro
  have HCO := Aside0.mk hco
  have HR1 := Aside0.mk hr1
  have HR5 := Aside0.mk hr5
  have HR6 := Aside0.mk hr6
  have HC := Aside0.mk (And.intro hc1 (And.intro hc5 hc6))
  have HP := Aside0.mk hp
  have hu24 := Try.underlying24
  have hu27 := Try.underlying27
  have hu36 := Try.underlying36
  have hu34 := Try.underlying34
  have hu29 := Try.underlying29
  have HB := Aside0.mk (Below.refl w.heap.size w)
  clear hro hco hr1 hc1 hr5 hc5 hr6 hc6 hp
  go_enter Try.func10, Try.ntmps10
  go_upto_region 2 with (first | ((with_reducible refine gate_dst (N := 5) rfl ?_); refine box_event ?hg (N := 5) ?hd (cs := #[.int .i64 cA, .int .u32 cI, .int .u32 cN, .int .i64 cH, .int .i64 cG, .int .i64 cL, .int .i64 cS, .int .i64 cD]) (t := 24) ?hr ?_; (case hd => rfl); (case hg => rfl); (case hr => first | (go_simp; done) | (go_simp; rfl)); intro gc hg w1 hbox hb; have HB1 := Aside0.mk (below_step HB.out hb); have BKC1 := Aside0.mk hbox; have GEC := Aside0.mk (show w.heap.size ≤ gc from by rw [hg]; exact Nat.le_refl _); clear hbox hb hg) | ((with_reducible refine gate_dst (N := 6) rfl ?_); refine box_event ?hg (N := 6) ?hd (cs := #[.int .i64 tN, .int .i64 tA, .slice AI nI cIn, .slice AO lo.length cOut]) (t := 27) ?hr ?_; (case hd => rfl); (case hg => rfl); (case hr => first | (go_simp; done) | (go_simp; rfl)); intro gt hg w2 hbox hb; have BKC2 := Aside0.mk ((hb.block _ (blk_lt BKC1.out)).trans BKC1.out); have HB2 := Aside0.mk (below_step HB1.out hb); have BKT2 := Aside0.mk hbox; have GET := Aside0.mk (show gc < gt from by rw [hg]; exact blk_lt BKC1.out); clear hbox hb hg) | ((with_reducible refine gate_dst (N := 8) rfl ?_); refine box_event ?hg (N := 8) ?hd (cs := #[.int .u32 pa, .int .i64 pl, .int .i64 pe, .int .i64 o, .slice A1 l1.length c1, .int .u32 nx, .int .i64 md, .int .i64 pr, .slice A5 l5.length c5, .slice A6 l6.length c6, .int .i64 st]) (t := 36) ?hr ?_; (case hd => rfl); (case hg => rfl); (case hr => first | (go_simp; done) | (go_simp; rfl)); intro gr hg w3 hbox hb; have BKC3 := Aside0.mk ((hb.block _ (blk_lt BKC2.out)).trans BKC2.out); have BKT3 := Aside0.mk ((hb.block _ (blk_lt BKT2.out)).trans BKT2.out); have HB3 := Aside0.mk (below_step HB2.out hb); have BKR3 := Aside0.mk hbox; have GER := Aside0.mk (show gt < gr from by rw [hg]; exact blk_lt BKT2.out); clear hbox hb hg) | ((with_reducible refine gate_dst (N := 10) rfl ?_); refine box_event ?hg (N := 10) ?hd (cs := #[.int .i64 0, .slice none 0 0, .int .u32 0, .int .i64 0, .int .i64 0, .slice none 0 0, .slice none 0 0]) (t := 34) ?hr ?_; (case hd => rfl); (case hg => rfl); (case hr => first | (go_simp; done) | (go_simp; rfl)); intro ga hg w4 hbox hb; have BKC4 := Aside0.mk ((hb.block _ (blk_lt BKC3.out)).trans BKC3.out); have BKT4 := Aside0.mk ((hb.block _ (blk_lt BKT3.out)).trans BKT3.out); have BKR4 := Aside0.mk ((hb.block _ (blk_lt BKR3.out)).trans BKR3.out); have HB4 := Aside0.mk (below_step HB3.out hb); have BKA4 := Aside0.mk hbox; have GEA := Aside0.mk (show gr < ga from by rw [hg]; exact blk_lt BKR3.out); have hq3 : w4.cell? ⟨gt, 3, none⟩ = some (.slice AO lo.length cOut) := (blk_cell BKT4.out 3).trans rfl; have hp0 : w4.cell? ⟨gr, 0, none⟩ = some (.int .u32 pa) := (blk_cell BKR4.out 0).trans rfl; have hp1 : w4.cell? ⟨gr, 1, none⟩ = some (.int .i64 pl) := (blk_cell BKR4.out 1).trans rfl; clear hbox hb hg) | (go_at_call 23; with_reducible refine (policy_Apply.calls AO cOut lo pa pl rp al _ (Kd.C_below HRO.out HB4.out) HCO.out HP.out).mono ?_; rintro e w5 ⟨rfl, hb⟩; have BKC5 := Aside0.mk ((hb.block _ (blk_lt BKC4.out)).trans BKC4.out); have BKT5 := Aside0.mk ((hb.block _ (blk_lt BKT4.out)).trans BKT4.out); have BKR5 := Aside0.mk ((hb.block _ (blk_lt BKR4.out)).trans BKR4.out); have BKA5 := Aside0.mk ((hb.block _ (blk_lt BKA4.out)).trans BKA4.out); have HB5 := Aside0.mk (below_step HB4.out hb); clear hb hq3 hp0 hp1))
  have hC0 : w5.cell? ⟨gc, 0, none⟩ = some (.int .i64 cA) := (blk_cell BKC5.out 0).trans rfl
  have hC2 : w5.cell? ⟨gc, 2, none⟩ = some (.int .u32 cN) := (blk_cell BKC5.out 2).trans rfl
  have hT0 : w5.cell? ⟨gt, 0, none⟩ = some (.int .i64 tN) := (blk_cell BKT5.out 0).trans rfl
  have hT1 : w5.cell? ⟨gt, 1, none⟩ = some (.int .i64 tA) := (blk_cell BKT5.out 1).trans rfl
  have hR2 : w5.cell? ⟨gr, 2, none⟩ = some (.int .i64 pe) := (blk_cell BKR5.out 2).trans rfl
  have hR10 : w5.cell? ⟨gr, 10, none⟩ = some (.int .i64 st) := (blk_cell BKR5.out 10).trans rfl
  go_cut [14] (fun v14 wc => v14 = .bool (decide (0 ≤ pe) && (fr == cA) && (tA == cA)) ∧ wc = w5)
  case first =>
    rcases e1 : decide (0 ≤ pe) with _ | _
    · go_wp2
      go_meet
      case rel => exact ⟨by simp [e1], rfl⟩
    · rcases e2 : (fr == cA) with _ | _
      · go_wp2
        go_meet
        case rel => exact ⟨by simp [e1, e2], rfl⟩
      · rcases e3 : (tA == cA) with _ | _
        · go_wp2
          go_meet
          case rel => exact ⟨by simp [e1, e2, e3], rfl⟩
        · go_wp2
          go_meet
          case rel => exact ⟨by simp [e1, e2, e3], rfl⟩
  case rest =>
    obtain ⟨rfl, hwc⟩ := hcut
    have hwc := hwc.symm
    subst hwc
    obtain ⟨win, hwin⟩ : ∃ b : Bool, b = (decide (0 ≤ pe) && (fr == cA) && (tA == cA)) := ⟨_, rfl⟩
    rw [← hwin]
    have HWN := Aside0.mk hwin
    clear hwin
    go_upto_region 3 with (fail)
    go_cut [60] (fun v60 wc => v60 = .bool ((pe == tN) || (win || (!al || ((st == 2) && !ll)))) ∧ wc = w5)
    case first =>
      rcases e4 : (pe == tN) with _ | _
      · rcases win with _ | _
        · rcases al with _ | _
          · go_wp2
            go_meet
            case rel => exact ⟨by simp [e4], rfl⟩
          · rcases e5 : (st == 2) with _ | _
            · go_wp2
              go_meet
              case rel => exact ⟨by simp [e4, e5], rfl⟩
            · rcases ll with _ | _
              · go_wp2
                go_meet
                case rel => exact ⟨by simp [e4, e5], rfl⟩
              · go_wp2
                go_meet
                case rel => exact ⟨by simp [e4, e5], rfl⟩
        · go_wp2
          go_meet
          case rel => exact ⟨by simp [e4], rfl⟩
      · go_wp2
        go_meet
        case rel => exact ⟨by simp [e4], rfl⟩
    case rest =>
      obtain ⟨rfl, hwc⟩ := hcut
      have hwc := hwc.symm
      subst hwc
      rcases hst : (stopB cA tN tA al ll pe st fr) with _ | _
      · have HST := Aside0.mk hst
        clear hst
        obtain ⟨⟨h4, hd1, h4y, h5, h6, hd⟩, hgx⟩ := HGO.out HST.out
        have H4 := Aside0.mk h4
        have HD1 := Aside0.mk hd1
        have H4Y := Aside0.mk h4y
        have H5 := Aside0.mk h5
        have H6 := Aside0.mk h6
        have HD := Aside0.mk hd
        have HGX := Aside0.mk hgx
        clear h4 hd1 h4y h5 h6 hd hgx
        rw [show ((pe == tN) || (win || (!al || ((st == 2) && !ll)))) = false from by rw [HWN.out]; exact HST.out]
        go_upto_region 6 with (first | ((with_reducible refine gate_dst (N := 63) rfl ?_); (try (refine gate_guard (by rfl) ?_; dsimp only)); refine load_blk rfl 34 (.tmp 62) rfl (g := gr) (off := 3) [.int .i64 o, .slice A1 l1.length c1, .int .u32 nx, .int .i64 md, .int .i64 pr, .slice A5 l5.length c5, .slice A6 l6.length c6] _ rfl BKR5.out (seven_x pa pl pe o A1 l1.length c1 nx md pr A5 l5.length c5 A6 l6.length c6 st) Try.underlying34 rfl (by kernel_rfl) ?_) | (go_at_call 24; with_reducible refine (attr_own o A1 c1 l1 nx md pr A5 c5 l5 A6 c6 l6 _ (Kd.C_below HR1.out HB5.out) HC.out.1 (Kd.C_below HR5.out HB5.out) HC.out.2.1 (Kd.C_below HR6.out HB5.out) HC.out.2.2 H4.out HD1.out H5.out H6.out HD.out).mono ?_; rintro e w6 ⟨B1, d1, d1', B5, d5', B6, d6', rfl, hl1, hq1, hq5, hq6, hb⟩; have BKC6 := Aside0.mk ((hb.block _ (blk_lt BKC5.out)).trans BKC5.out); have BKT6 := Aside0.mk ((hb.block _ (blk_lt BKT5.out)).trans BKT5.out); have BKA6 := Aside0.mk ((hb.block _ (blk_lt BKA5.out)).trans BKA5.out); have HB6 := Aside0.mk (below_step HB5.out hb); have HL1 := Aside0.mk hl1; have HAT6 := Aside0.mk (attrsAt_mk hq1 hq5 hq6); have HSX6 := Aside0.mk hb.size; clear hl1 hq1 hq5 hq6 hb) | ((with_reducible refine gate_dst (N := 15) rfl ?_); refine box_event ?hg (N := 15) ?hd (cs := #[.int .i64 0, .slice none 0 0, .int .u32 0, .int .i64 0, .int .i64 0, .slice none 0 0, .slice none 0 0]) (t := 34) ?hr ?_; (case hd => rfl); (case hg => rfl); (case hr => first | (go_simp; done) | (go_simp; rfl)); intro gb hg w7 hbox hb; have BKC7 := Aside0.mk ((hb.block _ (blk_lt BKC6.out)).trans BKC6.out); have BKT7 := Aside0.mk ((hb.block _ (blk_lt BKT6.out)).trans BKT6.out); have BKA7 := Aside0.mk ((hb.block _ (blk_lt BKA6.out)).trans BKA6.out); have HB7 := Aside0.mk (below_step HB6.out hb); have BKB7 := Aside0.mk hbox; have GEB := Aside0.mk (show ga < gb from by rw [hg]; exact blk_lt BKA6.out); have HGT := Aside0.mk (show gt < gb from by rw [hg]; exact blk_lt BKT6.out); have HGC := Aside0.mk (show gc < gb from by rw [hg]; exact blk_lt BKC6.out); have HAT7 := Aside0.mk (AttrsAt.below HAT6.out hb); have HSX7 := Aside0.mk (Nat.le_trans HSX6.out hb.size); clear hbox hb hg) | ((with_reducible refine gate_store (t := 34) (p := 15) rfl ?_); refine store_new rfl 34 (.tmp 15) (.tmp 64) rfl [.int .i64 o, .slice B1 l1.length d1, .int .u32 nx, .int .i64 md, .int .i64 pr, .slice B5 l5.length l5.length, .slice B6 l6.length l6.length] (by rfl) (by rfl) BKB7.out (by rfl) (by kernel_rfl) (by intro v hv; simp only [List.mem_cons, List.not_mem_nil, or_false] at hv; rcases hv with rfl | rfl | rfl | rfl | rfl | rfl | rfl <;> rfl) ?_; intro w8 hx hg hs; have BKB8 := Aside0.mk hx; have BKA8 := Aside0.mk ((hg.block _ (blk_lt BKA7.out) (fun e => by injection e with e; have := GEB.out; omega)).trans BKA7.out); have BKT8 := Aside0.mk ((hg.block _ (blk_lt BKT7.out) (fun e => by injection e with e; have := HGT.out; omega)).trans BKT7.out); have BKC8 := Aside0.mk ((hg.block _ (blk_lt BKC7.out) (fun e => by injection e with e; have := HGC.out; omega)).trans BKC7.out); have HB8 := Aside0.mk (HB7.out.grown hg HB7.out.size (fun k e => by injection e with e; have := GEC.out; have := HGC.out; omega)); have HAT8 := Aside0.mk (AttrsAt.grown HAT7.out hg BKB7.out); have HSX := Aside0.mk (Nat.le_trans HSX7.out hg.size); clear hx hg hs))
        have hc0 : w8.cell? ⟨gc, 0, none⟩ = some (.int .i64 cA) := (blk_cell BKC8.out 0).trans rfl
        have ht1 : w8.cell? ⟨gt, 1, none⟩ = some (.int .i64 tA) := (blk_cell BKT8.out 1).trans rfl
        by_cases heq : tA = cA
        · have HEQ := Aside0.mk heq
          clear heq
          have e3 : (tA == cA) = true := beq_iff_eq.mpr HEQ.out
          have e3n : (tA != cA) = false := by simp [HEQ.out]
          by_cases hpr_ : pr = -1
          · have HPR := Aside0.mk hpr_
            clear hpr_
            have HOUT := Aside0.mk (show (outA cA cN tA o l1 nx md pr l5 l6) = (o, l1, nx, md, 100, l5, l6) from by unfold outA; rw [if_pos HEQ.out, if_pos HPR.out])
            have HG := Aside0.mk (show attr_Good.f k o l1 nx md 100 l5 l6 = some gd from by have h := HGX.out; rw [HOUT.out] at h; exact h)
            have hpr : (pr == -1) = true := beq_iff_eq.mpr HPR.out
            have hb4 : w8.cell? ⟨gb, 4, none⟩ = some (.int .i64 pr) := (blk_cell BKB8.out 4).trans rfl
            have hf4 := blk_frozen BKB8.out 4
            have HKL := HL1
            go_upto_region 10 with (fail)
            clear hc0 ht1 hb4 hf4 e3 e3n hpr
            have BKB9 := Aside0.mk (show (w8.setCell ⟨gb, 4, none⟩ (.int .i64 100)).heap[gb]? = some (.cells #[.int .i64 o, .slice B1 l1.length d1, .int .u32 nx, .int .i64 md, .int .i64 100, .slice B5 l5.length l5.length, .slice B6 l6.length l6.length] 34 (0, 0)) from blk_put BKB8.out 4 _ rfl)
            have BKA9 := Aside0.mk (show (w8.setCell ⟨gb, 4, none⟩ (.int .i64 100)).heap[ga]? = some (.cells #[.int .i64 0, .slice none 0 0, .int .u32 0, .int .i64 0, .int .i64 0, .slice none 0 0, .slice none 0 0] 34 (0, 0)) from (Below.heap_setCell _ _ _ _ (show ga ≠ gb from by have := GEB.out; omega)).trans BKA8.out)
            have HB9 := Aside0.mk (show Below w.heap.size w (w8.setCell ⟨gb, 4, none⟩ (.int .i64 100)) from Below.setCell HB8.out (show w.heap.size ≤ gb from by have := GEC.out; have := GET.out; have := GER.out; have := GEA.out; have := GEB.out; omega) _)
            have HAT9 := Aside0.mk (show AttrsAt (w8.setCell ⟨gb, 4, none⟩ (.int .i64 100)) _ _ _ _ _ _ _ _ _ _ _ from AttrsAt.set HAT8.out BKB8.out 4 _)
            clear BKB8 BKA8 HB8 HAT8 BKC8 BKT8
            generalize (w8.setCell ⟨gb, 4, none⟩ (.int .i64 100)) = w9 at BKB9 BKA9 HB9 HAT9 ⊢
            rcases gd with _ | _
            · have HK1 := Aside0.mk (AttrsAt.c1 HAT9.out)
              have HK5 := Aside0.mk (AttrsAt.c5 HAT9.out)
              have HK6 := Aside0.mk (AttrsAt.c6 HAT9.out)
              go_wp2_with (first | ((with_reducible refine gate_dst (N := 85) rfl ?_); (try (refine gate_guard (by rfl) ?_; dsimp only)); refine load_blk rfl 34 (.tmp 15) rfl (g := gb) (off := 0) [.int .i64 o, .slice B1 l1.length d1, .int .u32 nx, .int .i64 md, .int .i64 100, .slice B5 l5.length l5.length, .slice B6 l6.length l6.length] _ rfl BKB9.out (self_x _) Try.underlying34 rfl (by kernel_rfl) ?_) | (go_at_call 26; with_reducible refine (attr_Good.calls k o B1 d1 l1 nx md 100 B5 l5.length l5 B6 l6.length l6 false _ HK1.out HKL.out HK5.out (Nat.le_refl _) HK6.out (Nat.le_refl _) HG.out).mono ?_; rintro e w12 ⟨rfl, hb⟩; have BKAG := Aside0.mk ((hb.block _ (blk_lt BKA9.out)).trans BKA9.out); have BKBG := Aside0.mk ((hb.block _ (blk_lt BKB9.out)).trans BKB9.out); have HBG := Aside0.mk (below_step HB9.out hb); have HM1 := Aside0.mk (Kd.C_below HK1.out hb); have HM5 := Aside0.mk (Kd.C_below HK5.out hb); have HM6 := Aside0.mk (Kd.C_below HK6.out hb); clear hb) | ((with_reducible refine gate_store (t := 34) (p := 10) rfl ?_); refine store_new rfl 34 (.tmp 10) (.tmp 88) rfl [.int .i64 0, .slice none 0 0, .int .u32 0, .int .i64 0, .int .i64 0, .slice none 0 0, .slice none 0 0] (by rfl) (by rfl) BKAG.out (by rfl) (by kernel_rfl) (by intro v hv; simp only [List.mem_cons, List.not_mem_nil, or_false] at hv; rcases hv with rfl | rfl | rfl | rfl | rfl | rfl | rfl <;> rfl) ?_; intro w13 hx hg hs; have BKF := Aside0.mk hx; have HBF := Aside0.mk (HBG.out.grown hg HBG.out.size (fun k e => by injection e with e; have := GEC.out; have := GET.out; have := GER.out; have := GEA.out; have := GEB.out; omega)); clear hx hg hs))
              refine bodyPost_ret (results_ct rfl _ _ ga 34 #[.int .i64 0, .slice none 0 0, .int .u32 0, .int .i64 0, .int .i64 0, .slice none 0 0, .slice none 0 0] (0, 0) _ rfl BKF.out Try.underlying34 rfl (by kernel_rfl)) rfl ?_
              exact HQ_.out _ _ (by rw [show (expV (stopB cA tN tA al ll pe st fr) false (outA cA cN tA o l1 nx md pr l5 l6)) = (0, [], 0, 0, 0, [], [], false) from by unfold expV; exact if_pos (Or.inr rfl)]; exact ToldAt.zero HBF.out)
            · have HK1 := Aside0.mk (AttrsAt.c1 HAT9.out)
              have HK5 := Aside0.mk (AttrsAt.c5 HAT9.out)
              have HK6 := Aside0.mk (AttrsAt.c6 HAT9.out)
              go_wp2_with (first | ((with_reducible refine gate_dst (N := 85) rfl ?_); (try (refine gate_guard (by rfl) ?_; dsimp only)); refine load_blk rfl 34 (.tmp 15) rfl (g := gb) (off := 0) [.int .i64 o, .slice B1 l1.length d1, .int .u32 nx, .int .i64 md, .int .i64 100, .slice B5 l5.length l5.length, .slice B6 l6.length l6.length] _ rfl BKB9.out (self_x _) Try.underlying34 rfl (by kernel_rfl) ?_) | (go_at_call 26; with_reducible refine (attr_Good.calls k o B1 d1 l1 nx md 100 B5 l5.length l5 B6 l6.length l6 true _ HK1.out HKL.out HK5.out (Nat.le_refl _) HK6.out (Nat.le_refl _) HG.out).mono ?_; rintro e w12 ⟨rfl, hb⟩; have BKAG := Aside0.mk ((hb.block _ (blk_lt BKA9.out)).trans BKA9.out); have BKBG := Aside0.mk ((hb.block _ (blk_lt BKB9.out)).trans BKB9.out); have HBG := Aside0.mk (below_step HB9.out hb); have HM1 := Aside0.mk (Kd.C_below HK1.out hb); have HM5 := Aside0.mk (Kd.C_below HK5.out hb); have HM6 := Aside0.mk (Kd.C_below HK6.out hb); have HATG := Aside0.mk (AttrsAt.below HAT9.out hb); clear hb) | ((with_reducible refine gate_dst (N := 89) rfl ?_); (try (refine gate_guard (by rfl) ?_; dsimp only)); refine load_blk rfl 34 (.tmp 15) rfl (g := gb) (off := 0) [.int .i64 o, .slice B1 l1.length d1, .int .u32 nx, .int .i64 md, .int .i64 100, .slice B5 l5.length l5.length, .slice B6 l6.length l6.length] _ rfl BKBG.out (self_x _) Try.underlying34 rfl (by kernel_rfl) ?_) | ((with_reducible refine gate_store (t := 34) (p := 10) rfl ?_); refine store_new rfl 34 (.tmp 10) (.tmp 89) rfl [.int .i64 o, .slice B1 l1.length d1, .int .u32 nx, .int .i64 md, .int .i64 100, .slice B5 l5.length l5.length, .slice B6 l6.length l6.length] (by rfl) (by rfl) BKAG.out (by rfl) (by kernel_rfl) (by intro v hv; simp only [List.mem_cons, List.not_mem_nil, or_false] at hv; rcases hv with rfl | rfl | rfl | rfl | rfl | rfl | rfl <;> rfl) ?_; intro w13 hx hg hs; have BKF := Aside0.mk hx; have HBF := Aside0.mk (HBG.out.grown hg HBG.out.size (fun k e => by injection e with e; have := GEC.out; have := GET.out; have := GER.out; have := GEA.out; have := GEB.out; omega)); have HATF := Aside0.mk (AttrsAt.grown HATG.out hg BKAG.out); clear hx hg hs))
              refine bodyPost_ret (results_ct rfl _ _ ga 34 #[.int .i64 o, .slice B1 l1.length d1, .int .u32 nx, .int .i64 md, .int .i64 100, .slice B5 l5.length l5.length, .slice B6 l6.length l6.length] (0, 0) _ rfl BKF.out Try.underlying34 rfl (by kernel_rfl)) rfl ?_
              exact HQ_.out _ _ ⟨o, B1, d1, l1, nx, md, 100, B5, l5.length, l5, B6, l6.length, l6, true, rfl, ⟨HKL.out, Nat.le_refl _, Nat.le_refl _⟩, AttrsAt.c1 HATF.out, AttrsAt.c5 HATF.out, AttrsAt.c6 HATF.out, HBF.out, by rw [HST.out, HOUT.out]; rfl, fun _ => ⟨rfl, rfl⟩⟩
          · have HPR := Aside0.mk hpr_
            clear hpr_
            have HOUT := Aside0.mk (show (outA cA cN tA o l1 nx md pr l5 l6) = (o, l1, nx, md, pr, l5, l6) from by unfold outA; rw [if_pos HEQ.out, if_neg HPR.out])
            have HG := Aside0.mk (show attr_Good.f k o l1 nx md pr l5 l6 = some gd from by have h := HGX.out; rw [HOUT.out] at h; exact h)
            have hpr : (pr == -1) = false := beq_eq_false_iff_ne.mpr HPR.out
            have hb4 : w8.cell? ⟨gb, 4, none⟩ = some (.int .i64 pr) := (blk_cell BKB8.out 4).trans rfl
            have HKL := HL1
            go_upto_region 10 with (fail)
            clear hc0 ht1 hb4 e3 e3n hpr
            rcases gd with _ | _
            · have HK1 := Aside0.mk (AttrsAt.c1 HAT8.out)
              have HK5 := Aside0.mk (AttrsAt.c5 HAT8.out)
              have HK6 := Aside0.mk (AttrsAt.c6 HAT8.out)
              go_wp2_with (first | ((with_reducible refine gate_dst (N := 85) rfl ?_); (try (refine gate_guard (by rfl) ?_; dsimp only)); refine load_blk rfl 34 (.tmp 15) rfl (g := gb) (off := 0) [.int .i64 o, .slice B1 l1.length d1, .int .u32 nx, .int .i64 md, .int .i64 pr, .slice B5 l5.length l5.length, .slice B6 l6.length l6.length] _ rfl BKB8.out (self_x _) Try.underlying34 rfl (by kernel_rfl) ?_) | (go_at_call 26; with_reducible refine (attr_Good.calls k o B1 d1 l1 nx md pr B5 l5.length l5 B6 l6.length l6 false _ HK1.out HKL.out HK5.out (Nat.le_refl _) HK6.out (Nat.le_refl _) HG.out).mono ?_; rintro e w12 ⟨rfl, hb⟩; have BKAG := Aside0.mk ((hb.block _ (blk_lt BKA8.out)).trans BKA8.out); have BKBG := Aside0.mk ((hb.block _ (blk_lt BKB8.out)).trans BKB8.out); have HBG := Aside0.mk (below_step HB8.out hb); have HM1 := Aside0.mk (Kd.C_below HK1.out hb); have HM5 := Aside0.mk (Kd.C_below HK5.out hb); have HM6 := Aside0.mk (Kd.C_below HK6.out hb); clear hb) | ((with_reducible refine gate_store (t := 34) (p := 10) rfl ?_); refine store_new rfl 34 (.tmp 10) (.tmp 88) rfl [.int .i64 0, .slice none 0 0, .int .u32 0, .int .i64 0, .int .i64 0, .slice none 0 0, .slice none 0 0] (by rfl) (by rfl) BKAG.out (by rfl) (by kernel_rfl) (by intro v hv; simp only [List.mem_cons, List.not_mem_nil, or_false] at hv; rcases hv with rfl | rfl | rfl | rfl | rfl | rfl | rfl <;> rfl) ?_; intro w13 hx hg hs; have BKF := Aside0.mk hx; have HBF := Aside0.mk (HBG.out.grown hg HBG.out.size (fun k e => by injection e with e; have := GEC.out; have := GET.out; have := GER.out; have := GEA.out; have := GEB.out; omega)); clear hx hg hs))
              refine bodyPost_ret (results_ct rfl _ _ ga 34 #[.int .i64 0, .slice none 0 0, .int .u32 0, .int .i64 0, .int .i64 0, .slice none 0 0, .slice none 0 0] (0, 0) _ rfl BKF.out Try.underlying34 rfl (by kernel_rfl)) rfl ?_
              exact HQ_.out _ _ (by rw [show (expV (stopB cA tN tA al ll pe st fr) false (outA cA cN tA o l1 nx md pr l5 l6)) = (0, [], 0, 0, 0, [], [], false) from by unfold expV; exact if_pos (Or.inr rfl)]; exact ToldAt.zero HBF.out)
            · have HK1 := Aside0.mk (AttrsAt.c1 HAT8.out)
              have HK5 := Aside0.mk (AttrsAt.c5 HAT8.out)
              have HK6 := Aside0.mk (AttrsAt.c6 HAT8.out)
              go_wp2_with (first | ((with_reducible refine gate_dst (N := 85) rfl ?_); (try (refine gate_guard (by rfl) ?_; dsimp only)); refine load_blk rfl 34 (.tmp 15) rfl (g := gb) (off := 0) [.int .i64 o, .slice B1 l1.length d1, .int .u32 nx, .int .i64 md, .int .i64 pr, .slice B5 l5.length l5.length, .slice B6 l6.length l6.length] _ rfl BKB8.out (self_x _) Try.underlying34 rfl (by kernel_rfl) ?_) | (go_at_call 26; with_reducible refine (attr_Good.calls k o B1 d1 l1 nx md pr B5 l5.length l5 B6 l6.length l6 true _ HK1.out HKL.out HK5.out (Nat.le_refl _) HK6.out (Nat.le_refl _) HG.out).mono ?_; rintro e w12 ⟨rfl, hb⟩; have BKAG := Aside0.mk ((hb.block _ (blk_lt BKA8.out)).trans BKA8.out); have BKBG := Aside0.mk ((hb.block _ (blk_lt BKB8.out)).trans BKB8.out); have HBG := Aside0.mk (below_step HB8.out hb); have HM1 := Aside0.mk (Kd.C_below HK1.out hb); have HM5 := Aside0.mk (Kd.C_below HK5.out hb); have HM6 := Aside0.mk (Kd.C_below HK6.out hb); have HATG := Aside0.mk (AttrsAt.below HAT8.out hb); clear hb) | ((with_reducible refine gate_dst (N := 89) rfl ?_); (try (refine gate_guard (by rfl) ?_; dsimp only)); refine load_blk rfl 34 (.tmp 15) rfl (g := gb) (off := 0) [.int .i64 o, .slice B1 l1.length d1, .int .u32 nx, .int .i64 md, .int .i64 pr, .slice B5 l5.length l5.length, .slice B6 l6.length l6.length] _ rfl BKBG.out (self_x _) Try.underlying34 rfl (by kernel_rfl) ?_) | ((with_reducible refine gate_store (t := 34) (p := 10) rfl ?_); refine store_new rfl 34 (.tmp 10) (.tmp 89) rfl [.int .i64 o, .slice B1 l1.length d1, .int .u32 nx, .int .i64 md, .int .i64 pr, .slice B5 l5.length l5.length, .slice B6 l6.length l6.length] (by rfl) (by rfl) BKAG.out (by rfl) (by kernel_rfl) (by intro v hv; simp only [List.mem_cons, List.not_mem_nil, or_false] at hv; rcases hv with rfl | rfl | rfl | rfl | rfl | rfl | rfl <;> rfl) ?_; intro w13 hx hg hs; have BKF := Aside0.mk hx; have HBF := Aside0.mk (HBG.out.grown hg HBG.out.size (fun k e => by injection e with e; have := GEC.out; have := GET.out; have := GER.out; have := GEA.out; have := GEB.out; omega)); have HATF := Aside0.mk (AttrsAt.grown HATG.out hg BKAG.out); clear hx hg hs))
              refine bodyPost_ret (results_ct rfl _ _ ga 34 #[.int .i64 o, .slice B1 l1.length d1, .int .u32 nx, .int .i64 md, .int .i64 pr, .slice B5 l5.length l5.length, .slice B6 l6.length l6.length] (0, 0) _ rfl BKF.out Try.underlying34 rfl (by kernel_rfl)) rfl ?_
              exact HQ_.out _ _ ⟨o, B1, d1, l1, nx, md, pr, B5, l5.length, l5, B6, l6.length, l6, true, rfl, ⟨HKL.out, Nat.le_refl _, Nat.le_refl _⟩, AttrsAt.c1 HATF.out, AttrsAt.c5 HATF.out, AttrsAt.c6 HATF.out, HBF.out, by rw [HST.out, HOUT.out]; rfl, fun _ => ⟨rfl, rfl⟩⟩
        · have HEQ := Aside0.mk heq
          clear heq
          have HOUT := Aside0.mk (show (outA cA cN tA o l1 nx md pr l5 l6) = (o, (prependV l1 cA), cN, (-1), (-1), l5, l6) from by unfold outA; rw [if_neg HEQ.out])
          have HG := Aside0.mk (show attr_Good.f k o (prependV l1 cA) cN (-1) (-1) l5 l6 = some gd from by have h := HGX.out; rw [HOUT.out] at h; exact h)
          have HSZ8 := Aside0.mk (show w5.heap.size ≤ w8.heap.size from HSX.out)
          have e3 : (tA == cA) = false := beq_eq_false_iff_ne.mpr HEQ.out
          have e3n : (tA != cA) = true := by simp [HEQ.out]
          go_upto_region 7 with (fail)
          clear hc0 ht1 e3 e3n
          refine start_ (n := 15) (S := fun w' => w'.cell? ⟨gc, 0, none⟩ = some (.int .i64 cA) ∧ w'.cell? ⟨gc, 2, none⟩ = some (.int .u32 cN)) (ds := []) #[false, false, false, false, false, false, false, false, false, false, false, false, false, false, false] (by kernel_rfl) rfl rfl ⟨(blk_cell BKC8.out 0).trans rfl, (blk_cell BKC8.out 2).trans rfl⟩ (fun hHeld => ?_)
          have HBD := Aside0.mk (below_drew1 HB8.out)
          have BKCD := Aside0.mk (blk_drew BKC8.out)
          have BKBD := Aside0.mk (blk_drew BKB8.out)
          have BKAD := Aside0.mk (blk_drew BKA8.out)
          have HATD := Aside0.mk (AttrsAt.below HAT8.out (below_drew (Below.refl _ _)))
          have HSZ := Aside0.mk (show w5.heap.size ≤ w8.drew.heap.size from HSZ8.out)
          generalize w8.drew = wD at HBD BKCD BKBD BKAD HATD HSZ hHeld ⊢
          have hb1D := (show wD.cell? ⟨gb, 1, none⟩ = some (.slice B1 l1.length d1) from (blk_cell BKBD.out 1).trans rfl)
          have HNE := Aside0.mk (show gc ≠ gb from by have := HGC.out; omega)
          refine pure_ (i := 0) (N := some 70) (v := ?_) (a' := ?_) #[true, false, false, false, false, false, false, false, false, false, false, false, false, false, false] rfl rfl (by kernel_rfl) (fun _ _ _ h => h) (Or.inl ⟨by rfl, ?_⟩) ?_ ?_
          rotate_left
          · intro w'
            go_simp
            with_reducible rfl
          rotate_left
          · simp only [Act.put, List.setIfInBounds_toArray, List.set_cons_zero, List.set_cons_succ, i64_w, i32_w]
            rfl
          refine pure_ (i := 2) (N := some 72) (v := ?_) (a' := ?_) #[true, false, true, false, false, false, false, false, false, false, false, false, false, false, false] rfl rfl (by kernel_rfl) (fun _ _ _ h => h) (Or.inl ⟨by rfl, ?_⟩) ?_ ?_
          rotate_left
          · intro w'
            go_simp
            with_reducible rfl
          rotate_left
          · simp only [Act.put, List.setIfInBounds_toArray, List.set_cons_zero, List.set_cons_succ, i64_w, i32_w]
            rfl
          refine pure_ (i := 5) (N := some 75) (v := ?_) (a' := ?_) #[true, false, true, false, false, true, false, false, false, false, false, false, false, false, false] rfl rfl (by kernel_rfl) (fun _ _ _ h => h) (Or.inl ⟨by rfl, ?_⟩) ?_ ?_
          rotate_left
          · intro w'
            go_simp
            with_reducible rfl
          rotate_left
          · simp only [Act.put, List.setIfInBounds_toArray, List.set_cons_zero, List.set_cons_succ, i64_w, i32_w]
            rfl
          refine take_ (i := 3) (N := some 73) (v := ?_) (a' := ?_) #[true, false, true, true, false, true, false, false, false, false, false, false, false, false, false] rfl rfl (by kernel_rfl) (fun _ _ _ h => h) (Or.inl ⟨by rfl, ?_⟩) hHeld ?_ ?_
          rotate_left
          · rintro w' ⟨s0, s1⟩
            go_simp
            with_reducible rfl
          rotate_left
          · simp only [Act.put, List.setIfInBounds_toArray, List.set_cons_zero, List.set_cons_succ, i64_w, i32_w]
            rfl
          refine take_ (i := 6) (N := some 76) (v := ?_) (a' := ?_) #[true, false, true, true, false, true, true, false, false, false, false, false, false, false, false] rfl rfl (by kernel_rfl) (fun _ _ _ h => h) (Or.inl ⟨by rfl, ?_⟩) hHeld ?_ ?_
          rotate_left
          · rintro w' ⟨s0, s1⟩
            go_simp
            with_reducible rfl
          rotate_left
          · simp only [Act.put, List.setIfInBounds_toArray, List.set_cons_zero, List.set_cons_succ, i64_w, i32_w]
            rfl
          refine one_ (i := 1) (N := some 71) #[true, true, true, true, false, true, true, false, false, false, false, false, false, false, false] rfl rfl (by kernel_rfl) (by decide) (fun K hK => ?_)
          refine value_ (w1 := ?_) (v := ?_) (by rfl) rfl ?_ ?_
          rotate_left 2
          · go_simp
            constructor
            · rfl
            · rfl
          refine hK.out _ _ ⟨(blk_cell BKCD.out 0).trans rfl, (blk_cell BKCD.out 2).trans rfl⟩ (fun hHeld => ?_)
          clear hK K
          refine norm_ (a' := ?_) ?_ ?_
          rotate_left
          · show Act.put _ (some 71) _ = _
            simp only [Act.put, List.setIfInBounds_toArray, List.set_cons_zero, List.set_cons_succ, i64_w, i32_w]
            rfl
          refine one_ (i := 4) (N := some 74) #[true, true, true, true, true, true, true, false, false, false, false, false, false, false, false] rfl rfl (by kernel_rfl) (by decide) (fun K hK => ?_)
          refine goes_ Try.func25 (by kernel_rfl) rfl #[.slice B1 l1.length d1, .int .i64 cA] (by rfl) rfl rfl (by (try simp only [List.map_toArray, List.map_cons, List.map_nil]); first | done | rfl) ?_
          refine (path_prepend B1 d1 l1 cA _ (AttrsAt.c1 HATD.out) HL1.out H4.out HD1.out H4Y.out).mono ?_
          rintro e w9 ⟨Q, n, q, q', rfl, hn, hq, hR, hb⟩
          clear hb1D
          subst hn
          have HQQ := Aside0.mk hq
          have HAT9 := Aside0.mk (attrsAt_mk (Kd.R_mono (ok' := fun k => w5.heap.size ≤ k) (Kd.R_lower hR HSZ.out) (fun k hk => Nat.le_trans HSZ.out hk)) (Kd.R_below HATD.out.2.1 hb) (Kd.R_below HATD.out.2.2 hb))
          have BKC9 := Aside0.mk ((hb.block _ (blk_lt BKCD.out)).trans BKCD.out)
          have BKB9 := Aside0.mk ((hb.block _ (blk_lt BKBD.out)).trans BKBD.out)
          have BKA9 := Aside0.mk ((hb.block _ (blk_lt BKAD.out)).trans BKAD.out)
          have HB9 := Aside0.mk (below_step HBD.out hb)
          clear hb hq hR
          have hs1 : w9.cell? ⟨gb, 1, none⟩ = some (.slice B1 l1.length d1) := (blk_cell BKB9.out 1).trans rfl
          have hs2 : w9.cell? ⟨gb, 2, none⟩ = some (.int .u32 nx) := (blk_cell BKB9.out 2).trans rfl
          have hs3 : w9.cell? ⟨gb, 3, none⟩ = some (.int .i64 md) := (blk_cell BKB9.out 3).trans rfl
          have hs4 : w9.cell? ⟨gb, 4, none⟩ = some (.int .i64 pr) := (blk_cell BKB9.out 4).trans rfl
          have hsf1 := blk_frozen BKB9.out 1
          have hsf2 := blk_frozen BKB9.out 2
          have hsf3 := blk_frozen BKB9.out 3
          have hsf4 := blk_frozen BKB9.out 4
          refine ⟨_, rfl, ?_⟩
          refine hK.out _ _ ⟨(blk_cell BKC9.out 0).trans rfl, (blk_cell BKC9.out 2).trans rfl⟩ (fun hHeld => ?_)
          clear hK K
          refine norm_ (a' := ?_) ?_ ?_
          rotate_left
          · show Act.put _ (some 74) _ = _
            simp only [Act.put, List.setIfInBounds_toArray, List.set_cons_zero, List.set_cons_succ, i64_w, i32_w]
            rfl
          refine pure_ (i := 7) (N := some 77) (v := ?_) (a' := ?_) #[true, true, true, true, true, true, true, true, false, false, false, false, false, false, false] rfl rfl (by kernel_rfl) (fun _ _ _ h => h) (Or.inl ⟨by rfl, ?_⟩) ?_ ?_
          rotate_left
          · intro w'
            go_simp
            with_reducible rfl
          rotate_left
          · simp only [Act.put, List.setIfInBounds_toArray, List.set_cons_zero, List.set_cons_succ, i64_w, i32_w]
            rfl
          refine one_ (i := 8) (N := none) #[true, true, true, true, true, true, true, true, true, false, false, false, false, false, false] rfl rfl (by kernel_rfl) (by decide) (fun K hK => ?_)
          refine skip_ (w1 := ?_) (by rfl) rfl ?_ ?_
          rotate_left
          · go_simp
            rfl
          refine hK.out _ _ ⟨(blk_cell (blk_far BKC9.out HNE.out _) 0).trans rfl, (blk_cell (blk_far BKC9.out HNE.out _) 2).trans rfl⟩ (fun hHeld => ?_)
          clear hK K
          refine pure_ (i := 9) (N := some 78) (v := ?_) (a' := ?_) #[true, true, true, true, true, true, true, true, true, true, false, false, false, false, false] rfl rfl (by kernel_rfl) (fun _ _ _ h => h) (Or.inl ⟨by rfl, ?_⟩) ?_ ?_
          rotate_left
          · intro w'
            go_simp
            with_reducible rfl
          rotate_left
          · simp only [Act.put, List.setIfInBounds_toArray, List.set_cons_zero, List.set_cons_succ, i64_w, i32_w]
            rfl
          refine one_ (i := 10) (N := none) #[true, true, true, true, true, true, true, true, true, true, true, false, false, false, false] rfl rfl (by kernel_rfl) (by decide) (fun K hK => ?_)
          refine skip_ (w1 := ?_) (by rfl) rfl ?_ ?_
          rotate_left
          · go_simp
            rfl
          refine hK.out _ _ ⟨(blk_cell (blk_far (blk_far BKC9.out HNE.out _) HNE.out _) 0).trans rfl, (blk_cell (blk_far (blk_far BKC9.out HNE.out _) HNE.out _) 2).trans rfl⟩ (fun hHeld => ?_)
          clear hK K
          refine pure_ (i := 11) (N := some 79) (v := ?_) (a' := ?_) #[true, true, true, true, true, true, true, true, true, true, true, true, false, false, false] rfl rfl (by kernel_rfl) (fun _ _ _ h => h) (Or.inl ⟨by rfl, ?_⟩) ?_ ?_
          rotate_left
          · intro w'
            go_simp
            with_reducible rfl
          rotate_left
          · simp only [Act.put, List.setIfInBounds_toArray, List.set_cons_zero, List.set_cons_succ, i64_w, i32_w]
            rfl
          refine one_ (i := 12) (N := none) #[true, true, true, true, true, true, true, true, true, true, true, true, true, false, false] rfl rfl (by kernel_rfl) (by decide) (fun K hK => ?_)
          refine skip_ (w1 := ?_) (by rfl) rfl ?_ ?_
          rotate_left
          · go_simp
            rfl
          refine hK.out _ _ ⟨(blk_cell (blk_far (blk_far (blk_far BKC9.out HNE.out _) HNE.out _) HNE.out _) 0).trans rfl, (blk_cell (blk_far (blk_far (blk_far BKC9.out HNE.out _) HNE.out _) HNE.out _) 2).trans rfl⟩ (fun hHeld => ?_)
          clear hK K
          refine pure_ (i := 13) (N := some 80) (v := ?_) (a' := ?_) #[true, true, true, true, true, true, true, true, true, true, true, true, true, true, false] rfl rfl (by kernel_rfl) (fun _ _ _ h => h) (Or.inl ⟨by rfl, ?_⟩) ?_ ?_
          rotate_left
          · intro w'
            go_simp
            with_reducible rfl
          rotate_left
          · simp only [Act.put, List.setIfInBounds_toArray, List.set_cons_zero, List.set_cons_succ, i64_w, i32_w]
            rfl
          refine one_ (i := 14) (N := none) #[true, true, true, true, true, true, true, true, true, true, true, true, true, true, true] rfl rfl (by kernel_rfl) (by decide) (fun K hK => ?_)
          refine skip_ (w1 := ?_) (by rfl) rfl ?_ ?_
          rotate_left
          · go_simp
            rfl
          refine hK.out _ _ ⟨(blk_cell (blk_far (blk_far (blk_far (blk_far BKC9.out HNE.out _) HNE.out _) HNE.out _) HNE.out _) 0).trans rfl, (blk_cell (blk_far (blk_far (blk_far (blk_far BKC9.out HNE.out _) HNE.out _) HNE.out _) HNE.out _) 2).trans rfl⟩ (fun hHeld => ?_)
          clear hK K
          refine done_ (by kernel_rfl) ?_
          have BKB10 := Aside0.mk (show ((((w9.setCell ⟨gb, 1, none⟩ (.slice Q (prependV l1 cA).length q)).setCell ⟨gb, 2, none⟩ (.int .u32 cN)).setCell ⟨gb, 3, none⟩ (.int .i64 (-1))).setCell ⟨gb, 4, none⟩ (.int .i64 (-1))).heap[gb]? = some (.cells #[.int .i64 o, .slice Q (prependV l1 cA).length q, .int .u32 cN, .int .i64 (-1), .int .i64 (-1), .slice B5 l5.length l5.length, .slice B6 l6.length l6.length] 34 (0, 0)) from (blk_put (cs' := #[.int .i64 o, .slice Q (prependV l1 cA).length q, .int .u32 cN, .int .i64 (-1), .int .i64 (-1), .slice B5 l5.length l5.length, .slice B6 l6.length l6.length]) (blk_put (cs' := #[.int .i64 o, .slice Q (prependV l1 cA).length q, .int .u32 cN, .int .i64 (-1), .int .i64 pr, .slice B5 l5.length l5.length, .slice B6 l6.length l6.length]) (blk_put (cs' := #[.int .i64 o, .slice Q (prependV l1 cA).length q, .int .u32 cN, .int .i64 md, .int .i64 pr, .slice B5 l5.length l5.length, .slice B6 l6.length l6.length]) (blk_put (cs' := #[.int .i64 o, .slice Q (prependV l1 cA).length q, .int .u32 nx, .int .i64 md, .int .i64 pr, .slice B5 l5.length l5.length, .slice B6 l6.length l6.length]) BKB9.out 1 (.slice Q (prependV l1 cA).length q) rfl) 2 (.int .u32 cN) rfl) 3 (.int .i64 (-1)) rfl) 4 (.int .i64 (-1)) rfl))
          have BKA10 := Aside0.mk (show ((((w9.setCell ⟨gb, 1, none⟩ (.slice Q (prependV l1 cA).length q)).setCell ⟨gb, 2, none⟩ (.int .u32 cN)).setCell ⟨gb, 3, none⟩ (.int .i64 (-1))).setCell ⟨gb, 4, none⟩ (.int .i64 (-1))).heap[ga]? = some (.cells #[.int .i64 0, .slice none 0 0, .int .u32 0, .int .i64 0, .int .i64 0, .slice none 0 0, .slice none 0 0] 34 (0, 0)) from ((Below.heap_setCell _ ⟨gb, 4, none⟩ _ ga (show ga ≠ gb from by have := GEB.out; omega)).trans ((Below.heap_setCell _ ⟨gb, 3, none⟩ _ ga (show ga ≠ gb from by have := GEB.out; omega)).trans ((Below.heap_setCell _ ⟨gb, 2, none⟩ _ ga (show ga ≠ gb from by have := GEB.out; omega)).trans ((Below.heap_setCell _ ⟨gb, 1, none⟩ _ ga (show ga ≠ gb from by have := GEB.out; omega)).trans BKA9.out)))))
          have HB10 := Aside0.mk (show Below w.heap.size w ((((w9.setCell ⟨gb, 1, none⟩ (.slice Q (prependV l1 cA).length q)).setCell ⟨gb, 2, none⟩ (.int .u32 cN)).setCell ⟨gb, 3, none⟩ (.int .i64 (-1))).setCell ⟨gb, 4, none⟩ (.int .i64 (-1))) from (Below.setCell (p := ⟨gb, 4, none⟩) (Below.setCell (p := ⟨gb, 3, none⟩) (Below.setCell (p := ⟨gb, 2, none⟩) (Below.setCell (p := ⟨gb, 1, none⟩) HB9.out (show w.heap.size ≤ gb from by have := GEC.out; have := GET.out; have := GER.out; have := GEA.out; have := GEB.out; omega) (.slice Q (prependV l1 cA).length q)) (show w.heap.size ≤ gb from by have := GEC.out; have := GET.out; have := GER.out; have := GEA.out; have := GEB.out; omega) (.int .u32 cN)) (show w.heap.size ≤ gb from by have := GEC.out; have := GET.out; have := GER.out; have := GEA.out; have := GEB.out; omega) (.int .i64 (-1))) (show w.heap.size ≤ gb from by have := GEC.out; have := GET.out; have := GER.out; have := GEA.out; have := GEB.out; omega) (.int .i64 (-1))))
          have HAT10 := Aside0.mk (show AttrsAt ((((w9.setCell ⟨gb, 1, none⟩ (.slice Q (prependV l1 cA).length q)).setCell ⟨gb, 2, none⟩ (.int .u32 cN)).setCell ⟨gb, 3, none⟩ (.int .i64 (-1))).setCell ⟨gb, 4, none⟩ (.int .i64 (-1))) _ _ _ _ _ _ _ _ _ _ _ from (AttrsAt.set (AttrsAt.set (AttrsAt.set (AttrsAt.set HAT9.out BKB9.out 1 _) (blk_put (cs' := #[.int .i64 o, .slice Q (prependV l1 cA).length q, .int .u32 nx, .int .i64 md, .int .i64 pr, .slice B5 l5.length l5.length, .slice B6 l6.length l6.length]) BKB9.out 1 (.slice Q (prependV l1 cA).length q) rfl) 2 _) (blk_put (cs' := #[.int .i64 o, .slice Q (prependV l1 cA).length q, .int .u32 cN, .int .i64 md, .int .i64 pr, .slice B5 l5.length l5.length, .slice B6 l6.length l6.length]) (blk_put (cs' := #[.int .i64 o, .slice Q (prependV l1 cA).length q, .int .u32 nx, .int .i64 md, .int .i64 pr, .slice B5 l5.length l5.length, .slice B6 l6.length l6.length]) BKB9.out 1 (.slice Q (prependV l1 cA).length q) rfl) 2 (.int .u32 cN) rfl) 3 _) (blk_put (cs' := #[.int .i64 o, .slice Q (prependV l1 cA).length q, .int .u32 cN, .int .i64 (-1), .int .i64 pr, .slice B5 l5.length l5.length, .slice B6 l6.length l6.length]) (blk_put (cs' := #[.int .i64 o, .slice Q (prependV l1 cA).length q, .int .u32 cN, .int .i64 md, .int .i64 pr, .slice B5 l5.length l5.length, .slice B6 l6.length l6.length]) (blk_put (cs' := #[.int .i64 o, .slice Q (prependV l1 cA).length q, .int .u32 nx, .int .i64 md, .int .i64 pr, .slice B5 l5.length l5.length, .slice B6 l6.length l6.length]) BKB9.out 1 (.slice Q (prependV l1 cA).length q) rfl) 2 (.int .u32 cN) rfl) 3 (.int .i64 (-1)) rfl) 4 _))
          have HKL := HQQ
          clear BKB9 BKA9 HB9 HAT9 BKC9 hs1 hs2 hs3 hs4 hsf1 hsf2 hsf3 hsf4
          generalize ((((w9.setCell ⟨gb, 1, none⟩ (.slice Q (prependV l1 cA).length q)).setCell ⟨gb, 2, none⟩ (.int .u32 cN)).setCell ⟨gb, 3, none⟩ (.int .i64 (-1))).setCell ⟨gb, 4, none⟩ (.int .i64 (-1))) = w10 at BKB10 BKA10 HB10 HAT10 ⊢
          rcases gd with _ | _
          · have HK1 := Aside0.mk (AttrsAt.c1 HAT10.out)
            have HK5 := Aside0.mk (AttrsAt.c5 HAT10.out)
            have HK6 := Aside0.mk (AttrsAt.c6 HAT10.out)
            go_wp2_with (first | ((with_reducible refine gate_dst (N := 85) rfl ?_); (try (refine gate_guard (by rfl) ?_; dsimp only)); refine load_blk rfl 34 (.tmp 15) rfl (g := gb) (off := 0) [.int .i64 o, .slice Q (prependV l1 cA).length q, .int .u32 cN, .int .i64 (-1), .int .i64 (-1), .slice B5 l5.length l5.length, .slice B6 l6.length l6.length] _ rfl BKB10.out (self_x _) Try.underlying34 rfl (by kernel_rfl) ?_) | (go_at_call 26; with_reducible refine (attr_Good.calls k o Q q (prependV l1 cA) cN (-1) (-1) B5 l5.length l5 B6 l6.length l6 false _ HK1.out HKL.out HK5.out (Nat.le_refl _) HK6.out (Nat.le_refl _) HG.out).mono ?_; rintro e w12 ⟨rfl, hb⟩; have BKAG := Aside0.mk ((hb.block _ (blk_lt BKA10.out)).trans BKA10.out); have BKBG := Aside0.mk ((hb.block _ (blk_lt BKB10.out)).trans BKB10.out); have HBG := Aside0.mk (below_step HB10.out hb); have HM1 := Aside0.mk (Kd.C_below HK1.out hb); have HM5 := Aside0.mk (Kd.C_below HK5.out hb); have HM6 := Aside0.mk (Kd.C_below HK6.out hb); clear hb) | ((with_reducible refine gate_store (t := 34) (p := 10) rfl ?_); refine store_new rfl 34 (.tmp 10) (.tmp 88) rfl [.int .i64 0, .slice none 0 0, .int .u32 0, .int .i64 0, .int .i64 0, .slice none 0 0, .slice none 0 0] (by rfl) (by rfl) BKAG.out (by rfl) (by kernel_rfl) (by intro v hv; simp only [List.mem_cons, List.not_mem_nil, or_false] at hv; rcases hv with rfl | rfl | rfl | rfl | rfl | rfl | rfl <;> rfl) ?_; intro w13 hx hg hs; have BKF := Aside0.mk hx; have HBF := Aside0.mk (HBG.out.grown hg HBG.out.size (fun k e => by injection e with e; have := GEC.out; have := GET.out; have := GER.out; have := GEA.out; have := GEB.out; omega)); clear hx hg hs))
            refine bodyPost_ret (results_ct rfl _ _ ga 34 #[.int .i64 0, .slice none 0 0, .int .u32 0, .int .i64 0, .int .i64 0, .slice none 0 0, .slice none 0 0] (0, 0) _ rfl BKF.out Try.underlying34 rfl (by kernel_rfl)) rfl ?_
            exact HQ_.out _ _ (by rw [show (expV (stopB cA tN tA al ll pe st fr) false (outA cA cN tA o l1 nx md pr l5 l6)) = (0, [], 0, 0, 0, [], [], false) from by unfold expV; exact if_pos (Or.inr rfl)]; exact ToldAt.zero HBF.out)
          · have HK1 := Aside0.mk (AttrsAt.c1 HAT10.out)
            have HK5 := Aside0.mk (AttrsAt.c5 HAT10.out)
            have HK6 := Aside0.mk (AttrsAt.c6 HAT10.out)
            go_wp2_with (first | ((with_reducible refine gate_dst (N := 85) rfl ?_); (try (refine gate_guard (by rfl) ?_; dsimp only)); refine load_blk rfl 34 (.tmp 15) rfl (g := gb) (off := 0) [.int .i64 o, .slice Q (prependV l1 cA).length q, .int .u32 cN, .int .i64 (-1), .int .i64 (-1), .slice B5 l5.length l5.length, .slice B6 l6.length l6.length] _ rfl BKB10.out (self_x _) Try.underlying34 rfl (by kernel_rfl) ?_) | (go_at_call 26; with_reducible refine (attr_Good.calls k o Q q (prependV l1 cA) cN (-1) (-1) B5 l5.length l5 B6 l6.length l6 true _ HK1.out HKL.out HK5.out (Nat.le_refl _) HK6.out (Nat.le_refl _) HG.out).mono ?_; rintro e w12 ⟨rfl, hb⟩; have BKAG := Aside0.mk ((hb.block _ (blk_lt BKA10.out)).trans BKA10.out); have BKBG := Aside0.mk ((hb.block _ (blk_lt BKB10.out)).trans BKB10.out); have HBG := Aside0.mk (below_step HB10.out hb); have HM1 := Aside0.mk (Kd.C_below HK1.out hb); have HM5 := Aside0.mk (Kd.C_below HK5.out hb); have HM6 := Aside0.mk (Kd.C_below HK6.out hb); have HATG := Aside0.mk (AttrsAt.below HAT10.out hb); clear hb) | ((with_reducible refine gate_dst (N := 89) rfl ?_); (try (refine gate_guard (by rfl) ?_; dsimp only)); refine load_blk rfl 34 (.tmp 15) rfl (g := gb) (off := 0) [.int .i64 o, .slice Q (prependV l1 cA).length q, .int .u32 cN, .int .i64 (-1), .int .i64 (-1), .slice B5 l5.length l5.length, .slice B6 l6.length l6.length] _ rfl BKBG.out (self_x _) Try.underlying34 rfl (by kernel_rfl) ?_) | ((with_reducible refine gate_store (t := 34) (p := 10) rfl ?_); refine store_new rfl 34 (.tmp 10) (.tmp 89) rfl [.int .i64 o, .slice Q (prependV l1 cA).length q, .int .u32 cN, .int .i64 (-1), .int .i64 (-1), .slice B5 l5.length l5.length, .slice B6 l6.length l6.length] (by rfl) (by rfl) BKAG.out (by rfl) (by kernel_rfl) (by intro v hv; simp only [List.mem_cons, List.not_mem_nil, or_false] at hv; rcases hv with rfl | rfl | rfl | rfl | rfl | rfl | rfl <;> rfl) ?_; intro w13 hx hg hs; have BKF := Aside0.mk hx; have HBF := Aside0.mk (HBG.out.grown hg HBG.out.size (fun k e => by injection e with e; have := GEC.out; have := GET.out; have := GER.out; have := GEA.out; have := GEB.out; omega)); have HATF := Aside0.mk (AttrsAt.grown HATG.out hg BKAG.out); clear hx hg hs))
            refine bodyPost_ret (results_ct rfl _ _ ga 34 #[.int .i64 o, .slice Q (prependV l1 cA).length q, .int .u32 cN, .int .i64 (-1), .int .i64 (-1), .slice B5 l5.length l5.length, .slice B6 l6.length l6.length] (0, 0) _ rfl BKF.out Try.underlying34 rfl (by kernel_rfl)) rfl ?_
            exact HQ_.out _ _ ⟨o, Q, q, (prependV l1 cA), cN, (-1), (-1), B5, l5.length, l5, B6, l6.length, l6, true, rfl, ⟨HKL.out, Nat.le_refl _, Nat.le_refl _⟩, AttrsAt.c1 HATF.out, AttrsAt.c5 HATF.out, AttrsAt.c6 HATF.out, HBF.out, by rw [HST.out, HOUT.out]; rfl, fun _ => ⟨rfl, rfl⟩⟩
      · have HST := Aside0.mk hst
        clear hst
        rw [show ((pe == tN) || (win || (!al || ((st == 2) && !ll)))) = true from by rw [HWN.out]; exact HST.out]
        go_wp2_with (first | ((with_reducible refine gate_store (t := 34) (p := 10) rfl ?_); refine store_new rfl 34 (.tmp 10) (.tmp 61) rfl [.int .i64 0, .slice none 0 0, .int .u32 0, .int .i64 0, .int .i64 0, .slice none 0 0, .slice none 0 0] (by rfl) (by rfl) BKA5.out (by rfl) (by kernel_rfl) (by intro v hv; simp only [List.mem_cons, List.not_mem_nil, or_false] at hv; rcases hv with rfl | rfl | rfl | rfl | rfl | rfl | rfl <;> rfl) ?_; intro w9 hx hg hs; have BKF := Aside0.mk hx; have HBF := Aside0.mk (HB5.out.grown hg HB5.out.size (fun k e => by injection e with e; have := GEC.out; have := GET.out; have := GER.out; have := GEA.out; omega)); clear hx hg hs))
        refine bodyPost_ret (results_ct rfl _ _ ga 34 #[.int .i64 0, .slice none 0 0, .int .u32 0, .int .i64 0, .int .i64 0, .slice none 0 0, .slice none 0 0] (0, 0) _ rfl BKF.out Try.underlying34 rfl (by kernel_rfl)) rfl ?_
        exact HQ_.out _ _ (by rw [show (expV (stopB cA tN tA al ll pe st fr) gd (outA cA cN tA o l1 nx md pr l5 l6)) = (0, [], 0, 0, 0, [], [], false) from by unfold expV; exact if_pos (Or.inl HST.out)]; exact ToldAt.zero HBF.out)
set_option maxHeartbeats 4000000 in
set_option maxRecDepth 100000 in
theorem export_dflt_true (k : Nat) (cA cI cN cH cG cL cS cD tN tA : Int) (AI : Option Addr) (nI cIn : Nat) (AO : Option Addr) (cOut : Nat) (lo : List S87) (ll : Bool) (pa pl pe o : Int) (A1 : Option Addr) (c1 : Nat) (l1 : List S69) (nx md pr : Int) (A5 : Option Addr) (c5 : Nat) (l5 : List Int) (A6 : Option Addr) (c6 : Nat) (l6 : List S73) (st fr : Int) (rp : Int) (al gd : Bool) (w : World) (hro : Kd.C k87 w AO lo.length lo) (hco : lo.length ≤ cOut) (hr1 : Kd.C k69 w A1 l1.length l1) (hc1 : l1.length ≤ c1) (hr5 : Kd.C (Kd.int .u32) w A5 l5.length l5) (hc5 : l5.length ≤ c5) (hr6 : Kd.C k73 w A6 l6.length l6) (hc6 : l6.length ≤ c6) (hp : policy_Apply.f lo pa pl = some (rp, al)) (h4 : l1.length < 4000) (hd1 : ∀ y ∈ l1, slices_Clone_int_int.f y.f1 = some y.f1) (h4y : ∀ y ∈ l1, y.f1.length < 4000) (h5 : slices_Clone_uint32_uint32.f l5 = some l5) (h6 : l6.length < 4000) (hd : ∀ r ∈ l6, bytes_Clone.f r.f2 = some r.f2) (hst : stopB cA tN tA al ll pe st fr = false) (heq : tA = cA) (hpr_ : pr = -1) (hg_ : attr_Good.f k o l1 nx md 100 l5 l6 = some true) :
    Calls Try.prog 10 #[.agg #[.int .i64 cA, .int .u32 cI, .int .u32 cN, .int .i64 cH, .int .i64 cG, .int .i64 cL, .int .i64 cS, .int .i64 cD], .agg #[.int .i64 tN, .int .i64 tA, .slice AI nI cIn, .slice AO lo.length cOut], .bool ll, .agg #[.int .u32 pa, .int .i64 pl, .int .i64 pe, .int .i64 o, .slice A1 l1.length c1, .int .u32 nx, .int .i64 md, .int .i64 pr, .slice A5 l5.length c5, .slice A6 l6.length c6, .int .i64 st], .int .i64 fr] w fun e w' => ∃ (X1 : Option Addr) (y1 : Nat) (X5 X6 : Option Addr), e = .returned (.tuple #[.agg #[.int .i64 o, .slice X1 l1.length y1, .int .u32 nx, .int .i64 md, .int .i64 100, .slice X5 l5.length l5.length, .slice X6 l6.length l6.length], .bool true]) ∧ l1.length ≤ y1 ∧ Kd.C k69 w' X1 l1.length l1 ∧ Kd.C (Kd.int .u32) w' X5 l5.length l5 ∧ Kd.C k73 w' X6 l6.length l6 ∧ Below w.heap.size w w' := by
  have ho : (outA cA cN tA o l1 nx md pr l5 l6) = (o, l1, nx, md, 100, l5, l6) := by unfold outA; rw [if_pos heq, if_pos hpr_]
  refine export_told k cA cI cN cH cG cL cS cD tN tA AI nI cIn AO cOut lo ll pa pl pe o A1 c1 l1 nx md pr A5 c5 l5 A6 c6 l6 st fr rp al true w hro hco hr1 hc1 hr5 hc5 hr6 hc6 hp (fun _ => ⟨⟨h4, hd1, h4y, h5, h6, hd⟩, by rw [ho]; exact hg_⟩) _ (fun e w' h => ?_)
  obtain ⟨x0, X1, y1, p1, x2, x3, x4, X5, y5, p5, X6, y6, p6, xb, rfl, hy, k1, k5, k6, hb, hv, hc⟩ := h
  rw [hst, ho] at hv
  unfold expV at hv
  rw [if_neg (by simp)] at hv
  simp only [Prod.mk.injEq] at hv
  obtain ⟨rfl, rfl, rfl, rfl, rfl, rfl, rfl, rfl⟩ := hv
  obtain ⟨rfl, rfl⟩ := hc rfl
  exact ⟨X1, y1, X5, X6, rfl, hy.1, k1, k5, k6, hb⟩
set_option maxHeartbeats 4000000 in
set_option maxRecDepth 100000 in
theorem export_ext_true (k : Nat) (cA cI cN cH cG cL cS cD tN tA : Int) (AI : Option Addr) (nI cIn : Nat) (AO : Option Addr) (cOut : Nat) (lo : List S87) (ll : Bool) (pa pl pe o : Int) (A1 : Option Addr) (c1 : Nat) (l1 : List S69) (nx md pr : Int) (A5 : Option Addr) (c5 : Nat) (l5 : List Int) (A6 : Option Addr) (c6 : Nat) (l6 : List S73) (st fr : Int) (rp : Int) (al gd : Bool) (w : World) (hro : Kd.C k87 w AO lo.length lo) (hco : lo.length ≤ cOut) (hr1 : Kd.C k69 w A1 l1.length l1) (hc1 : l1.length ≤ c1) (hr5 : Kd.C (Kd.int .u32) w A5 l5.length l5) (hc5 : l5.length ≤ c5) (hr6 : Kd.C k73 w A6 l6.length l6) (hc6 : l6.length ≤ c6) (hp : policy_Apply.f lo pa pl = some (rp, al)) (h4 : l1.length < 4000) (hd1 : ∀ y ∈ l1, slices_Clone_int_int.f y.f1 = some y.f1) (h4y : ∀ y ∈ l1, y.f1.length < 4000) (h5 : slices_Clone_uint32_uint32.f l5 = some l5) (h6 : l6.length < 4000) (hd : ∀ r ∈ l6, bytes_Clone.f r.f2 = some r.f2) (hst : stopB cA tN tA al ll pe st fr = false) (heq : tA ≠ cA) (hg_ : attr_Good.f k o (prependV l1 cA) cN (-1) (-1) l5 l6 = some true) :
    Calls Try.prog 10 #[.agg #[.int .i64 cA, .int .u32 cI, .int .u32 cN, .int .i64 cH, .int .i64 cG, .int .i64 cL, .int .i64 cS, .int .i64 cD], .agg #[.int .i64 tN, .int .i64 tA, .slice AI nI cIn, .slice AO lo.length cOut], .bool ll, .agg #[.int .u32 pa, .int .i64 pl, .int .i64 pe, .int .i64 o, .slice A1 l1.length c1, .int .u32 nx, .int .i64 md, .int .i64 pr, .slice A5 l5.length c5, .slice A6 l6.length c6, .int .i64 st], .int .i64 fr] w fun e w' => ∃ (X1 : Option Addr) (y1 : Nat) (X5 X6 : Option Addr), e = .returned (.tuple #[.agg #[.int .i64 o, .slice X1 (prependV l1 cA).length y1, .int .u32 cN, .int .i64 (-1), .int .i64 (-1), .slice X5 l5.length l5.length, .slice X6 l6.length l6.length], .bool true]) ∧ (prependV l1 cA).length ≤ y1 ∧ Kd.C k69 w' X1 (prependV l1 cA).length (prependV l1 cA) ∧ Kd.C (Kd.int .u32) w' X5 l5.length l5 ∧ Kd.C k73 w' X6 l6.length l6 ∧ Below w.heap.size w w' := by
  have ho : (outA cA cN tA o l1 nx md pr l5 l6) = (o, (prependV l1 cA), cN, (-1), (-1), l5, l6) := by unfold outA; rw [if_neg heq]
  refine export_told k cA cI cN cH cG cL cS cD tN tA AI nI cIn AO cOut lo ll pa pl pe o A1 c1 l1 nx md pr A5 c5 l5 A6 c6 l6 st fr rp al true w hro hco hr1 hc1 hr5 hc5 hr6 hc6 hp (fun _ => ⟨⟨h4, hd1, h4y, h5, h6, hd⟩, by rw [ho]; exact hg_⟩) _ (fun e w' h => ?_)
  obtain ⟨x0, X1, y1, p1, x2, x3, x4, X5, y5, p5, X6, y6, p6, xb, rfl, hy, k1, k5, k6, hb, hv, hc⟩ := h
  rw [hst, ho] at hv
  unfold expV at hv
  rw [if_neg (by simp)] at hv
  simp only [Prod.mk.injEq] at hv
  obtain ⟨rfl, rfl, rfl, rfl, rfl, rfl, rfl, rfl⟩ := hv
  obtain ⟨rfl, rfl⟩ := hc rfl
  exact ⟨X1, y1, X5, X6, rfl, hy.1, k1, k5, k6, hb⟩


end Go.Proofs.Ytjdebhkdbdbepaa.PExportGone
