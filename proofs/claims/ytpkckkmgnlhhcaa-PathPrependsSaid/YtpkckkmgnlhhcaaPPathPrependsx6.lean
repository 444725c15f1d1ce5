-- Lean text by a program of this repo (wip/tools/printx.py), out of Lean's own print of the translation
import Derived.Test.YtpkckkmgnlhhcaaOwn
import Derived.Test.YtpkckkmgnlhhcaaInts
import Derived.Test.YtpkckkmgnlhhcaaMid
import Derived.Test.YtpkckkmgnlhhcaaHelp
import Derived.ArgAppend
import Derived.Test.YtpkckkmgnlhhcaaPPathPrependsx0
import Derived.Test.YtpkckkmgnlhhcaaPPathPrependsx1
import Derived.Test.YtpkckkmgnlhhcaaPPathPrependsx3
import Derived.Test.YtpkckkmgnlhhcaaPPathPrependsx4
import Derived.Test.YtpkckkmgnlhhcaaPPathPrependsx5
namespace Go.Proofs.Ytpkckkmgnlhhcaa.PPathPrepends
open Go.RowKit Go.Proofs.YtpkckkmgnlhhcaaW.PrintWords Go.Proofs.YtpkckkmgnlhhcaaW.PrintLast Go.Proofs.YtpkckkmgnlhhcaaW.PrintMore
attribute [local go_sem] max2_int min2_int max_two min_two max_three min_three max_four min_four   -- for this text's walks alone
set_option linter.unusedVariables false
set_option linter.unusedSimpArgs false

/-! ### interregnumlaw06_PathPrepends: function 11 -/
-- FN rounds=1 making=1
-- IMPORT Derived.ArgAppend
-- IMPORT Derived.Test.YtpkckkmgnlhhcaaHelp
-- IMPORT Derived.Test.YtpkckkmgnlhhcaaMid
-- IMPORT Derived.Test.YtpkckkmgnlhhcaaInts
-- IMPORT Derived.Test.YtpkckkmgnlhhcaaOwn
open Go.Proofs.Ytpkckkmgnlhhcaa.Ints
open Go.Proofs.Ytpkckkmgnlhhcaa.Own
open Go.Proofs.Ytpkckkmgnlhhcaa.Help
open Go.Proofs.Ytpkckkmgnlhhcaa.Own in
/-- A segment of a path, of the call's own. -/
def kc38 : Kd S38 := Kd.iso (Kd.pair Kd.bool (cut 3 .i64)) (fun x : S38 => (x.f0, x.f1))
theorem R_drewO {α : Type} {d : Kd α} {e : Nat} {w : World} {base : Nat} {ok : Nat → Prop} {v : Value} {xs : List α} (h : d.R e w base ok v xs) : d.R e w.drew base ok v xs := Kd.R_below h (below_drew (Below.refl _ _))
theorem kc_C {w : World} {A : Option Addr} {n : Nat} {xs : List S38} (h : kc38.C w A n xs) : k38.C w A n xs := h
set_option maxHeartbeats 4000000 in
set_option maxRecDepth 100000 in
theorem infoSeg : (Try.prog.info? 38).map (fun i => (i.zero, i.size, i.bytes)) = some (some (.agg #[.bool false, .slice none 0 0]), 2, 32) := by kernel_rfl
set_option maxHeartbeats 4000000 in
set_option maxRecDepth 100000 in
theorem clip_int (A : Option Addr) (n c : Nat) (w : World) (hn : n ≤ c) :
    Calls Try.prog 69 #[.slice A n c] w fun e w' => e = .returned (.slice A n n) ∧ Below w.heap.size w w' := by
  have HB := Aside0.mk (Below.refl w.heap.size w)
  go_enter Try.func69, Try.ntmps69
  go_wp2
  go_ret
  exact ⟨rfl, by first | exact HB.out | exact pw_below_drewN HB.out _⟩
set_option maxHeartbeats 4000000 in
set_option maxRecDepth 100000 in
theorem clip_seg (A : Option Addr) (n c : Nat) (w : World) (hn : n ≤ c) :
    Calls Try.prog 71 #[.slice A n c] w fun e w' => e = .returned (.slice A n n) ∧ Below w.heap.size w w' := by
  have HB := Aside0.mk (Below.refl w.heap.size w)
  go_enter Try.func71, Try.ntmps71
  go_wp2
  go_ret
  exact ⟨rfl, by first | exact HB.out | exact pw_below_drewN HB.out _⟩
set_option maxHeartbeats 4000000 in
set_option maxRecDepth 100000 in
theorem path_own (A1 : Option Addr) (c1 : Nat) (l1 : List S38) (w : World) (hr1 : Kd.C k38 w A1 l1.length l1) (hc1 : l1.length ≤ c1) (h4 : l1.length < 4000) (hd : ∀ y ∈ l1, slices_Clone_int_int.f y.f1 = some y.f1) :
    Calls Try.prog 55 #[.slice A1 l1.length c1] w fun e w' => ∃ B d d', e = .returned (.slice B l1.length d) ∧ l1.length ≤ d ∧ Kd.R kc38 38 w' w.heap.size (fun k => w.heap.size ≤ k) (.slice B l1.length d') l1 ∧ Below w.heap.size w w' := by
  have HR1 := Aside0.mk hr1
  have HC := Aside0.mk hc1
  have H4 := Aside0.mk h4
  have HD := Aside0.mk hd
  have hu38 := Try.underlying38
  have HB := Aside0.mk (Below.refl w.heap.size w)
  clear hr1 hc1 h4 hd
  go_enter Try.func55, Try.ntmps55
  go_wp2
  go_loopg [3, 8] (l1.length + 1) (fun kq v3 v8 w' => ∃ x : Nat, v8 = .int .i64 (x : Int) ∧ Aside0 (x + kq = l1.length + 1 ∧ x ≤ l1.length) ∧ Aside0 (Kd.R kc38 38 w' w.heap.size (fun k => w.heap.size ≤ k) v3 (l1.take x)) ∧ Aside0 (Below w.heap.size w w'))
  case atStart => exact ⟨0, rfl, ⟨by omega, by omega⟩, ⟨Kd.R_nil _ _ _ _ _⟩, by first | exact HB | exact ⟨pw_below_drewN HB.out _⟩⟩
  case round =>
    obtain ⟨x, rfl, HM, HN, HBL⟩ := hrel
    obtain ⟨k1, rfl⟩ : ∃ k1, gk = k1 + 1 := ⟨gk - 1, by have := HM.out; omega⟩
    by_cases hlt : x < l1.length
    · have q0 : 0 ≤ ((x : Nat) : Int) := by omega
      have q1 : ((x : Nat) : Int) < (l1.length : Int) := by omega
      have c4b0 : decide (((x : Nat) : Int) < (l1.length : Int)) = true := decide_eq_true q1
      have c4b1 : decide (x < l1.length) = true := decide_eq_true hlt
      obtain ⟨ad, AD, cD, e, hx0, hx1, lD, gD⟩ := at_T38 (Kd.C_below HR1.out HBL.out) ((x : Nat) : Int) q0 q1
      cases e
      simp only [Int.toNat_natCast] at hx0 hx1
      have hR : rd_T38 l1 ((x : Nat) : Int) = l1[x] := by
        unfold rd_T38
        rw [List.getD_eq_getElem?_getD, Int.toNat_natCast, List.getElem?_eq_getElem hlt]
        rfl
      have HTK := Aside0.mk (show l1.take (x + 1) = l1.take x ++ [l1[x]] from List.take_succ_eq_append_getElem hlt)
      have HDD := Aside0.mk (HD.out l1[x] (List.getElem_mem hlt))
      have HQ := Aside0.mk hlt
      rw [hR] at hx0 hx1 lD gD
      have HLD := Aside0.mk lD
      have HGD := Aside0.mk gD
      clear hR lD gD
      generalize l1[x] = R6 at hx0 hx1 HTK HDD HLD HGD
      clear hlt
      replace q0 := eq_true q0
      replace q1 := eq_true q1
      go_upto_region 5 with (first | ((with_reducible refine gate_dst (N := 5) rfl ?_); refine box_event ?hg (N := 5) ?hd (cs := #[.bool false, .slice none 0 0]) (t := 38) ?hr ?_; (case hd => rfl); (case hg => rfl); (case hr => first | (go_simp; done) | (go_simp; rfl)); intro g5 hg w8 hbox hb; have HB8 := Aside0.mk hb; have BK5 := Aside0.mk hbox; have GE5 := Aside0.mk (show wr.heap.size ≤ g5 from by rw [hg]; exact Nat.le_refl _); have hz0 := (show w8.cell? ⟨g5, 0, none⟩ = some (.bool false) from (blk_cell hbox 0).trans rfl); have hf0 := blk_frozen hbox 0; have hz1 := (show w8.cell? ⟨g5, 1, none⟩ = some (.slice none 0 0) from (blk_cell hbox 1).trans rfl); have hf1 := blk_frozen hbox 1; replace hx0 := (hb.cell (World.block_lt_of_cell? _ _ hx0)).trans hx0; replace hx1 := (hb.cell (World.block_lt_of_cell? _ _ hx1)).trans hx1; clear hbox hb hg))
      have BK5f := Aside0.mk (show ((w8.setCell ⟨g5, 0, none⟩ (.bool R6.f0)).setCell ⟨g5, 1, none⟩ (.slice AD R6.f1.length cD)).heap[g5]? = some (.cells #[.bool R6.f0, .slice AD R6.f1.length cD] 38 (0, 0)) from blk_put (cs := #[.bool R6.f0, .slice none 0 0]) (blk_put BK5.out 0 _ rfl) 1 _ rfl)
      have HBX := Aside0.mk (show Below wr.heap.size wr ((w8.setCell ⟨g5, 0, none⟩ (.bool R6.f0)).setCell ⟨g5, 1, none⟩ (.slice AD R6.f1.length cD)) from by
        refine Below.setCell ?_ (show wr.heap.size ≤ g5 from GE5.out) _
        refine Below.setCell ?_ (show wr.heap.size ≤ g5 from GE5.out) _
        exact HB8.out)
      clear HB8 BK5 hz0 hz1 hf0 hf1 hx0 hx1
      generalize ((w8.setCell ⟨g5, 0, none⟩ (.bool R6.f0)).setCell ⟨g5, 1, none⟩ (.slice AD R6.f1.length cD)) = wf at BK5f HBX ⊢
      have HNf := Aside0.mk (Kd.R_below HN.out HBX.out)
      have HBf := Aside0.mk (HBL.out.trans (HBX.out.mono HBL.out.size))
      have HGf := Aside0.mk (Kd.C_below HGD.out HBX.out)
      clear HN HBL HGD HBX GE5
      refine start_ (n := 11) (S := fun w' => w'.cell? ⟨g5, 0, none⟩ = some (.bool R6.f0) ∧ w'.cell? ⟨g5, 1, none⟩ = some (.slice AD R6.f1.length cD)) (ds := [9]) #[false, false, false, false, false, false, false, false, false, false, false] (by kernel_rfl) rfl rfl ⟨((blk_cell BK5f.out 0).trans rfl), ((blk_cell BK5f.out 1).trans rfl)⟩ (fun hHeld => ?_)
      have HBD := Aside0.mk (below_drew1 HBf.out)
      have BK5D := Aside0.mk (blk_drew BK5f.out)
      have HND := Aside0.mk (R_drewO HNf.out)
      have HGD := Aside0.mk (Kd.C_drew HGf.out)
      generalize wf.drew = wD at HBD BK5D HND HGD hHeld ⊢
      refine pure_ (i := 0) (N := some 12) (v := ?_) (a' := ?_) #[true, false, false, false, false, false, false, false, false, false, false] rfl rfl (by kernel_rfl) (fun _ _ _ h => h) (Or.inl ⟨by rfl, ?_⟩) ?_ ?_
      rotate_left
      · intro w'
        go_simp
        with_reducible rfl
      rotate_left
      · simp only [Act.put, List.setIfInBounds_toArray, List.set_cons_zero, List.set_cons_succ, i64_w, i32_w]
        rfl
      refine pure_ (i := 1) (N := some 13) (v := ?_) (a' := ?_) #[true, true, false, false, false, false, false, false, false, false, false] rfl rfl (by kernel_rfl) (fun _ _ _ h => h) (Or.inl ⟨by rfl, ?_⟩) ?_ ?_
      rotate_left
      · intro w'
        go_simp
        with_reducible rfl
      rotate_left
      · simp only [Act.put, List.setIfInBounds_toArray, List.set_cons_zero, List.set_cons_succ, i64_w, i32_w]
        rfl
      refine pure_ (i := 3) (N := some 15) (v := ?_) (a' := ?_) #[true, true, false, true, false, false, false, false, false, false, false] rfl rfl (by kernel_rfl) (fun _ _ _ h => h) (Or.inl ⟨by rfl, ?_⟩) ?_ ?_
      rotate_left
      · intro w'
        go_simp
        with_reducible rfl
      rotate_left
      · simp only [Act.put, List.setIfInBounds_toArray, List.set_cons_zero, List.set_cons_succ, i64_w, i32_w]
        rfl
      refine take_ (i := 2) (N := some 14) (v := ?_) (a' := ?_) #[true, true, true, true, false, false, false, false, false, false, false] rfl rfl (by kernel_rfl) (fun _ _ _ h => h) (Or.inl ⟨by rfl, ?_⟩) hHeld ?_ ?_
      rotate_left
      · rintro w' ⟨s0, s1⟩
        go_simp
        with_reducible rfl
      rotate_left
      · simp only [Act.put, List.setIfInBounds_toArray, List.set_cons_zero, List.set_cons_succ, i64_w, i32_w]
        rfl
      refine take_ (i := 4) (N := some 16) (v := ?_) (a' := ?_) #[true, true, true, true, true, false, false, false, false, false, false] rfl rfl (by kernel_rfl) (fun _ _ _ h => h) (Or.inl ⟨by rfl, ?_⟩) hHeld ?_ ?_
      rotate_left
      · rintro w' ⟨s0, s1⟩
        go_simp
        with_reducible rfl
      rotate_left
      · simp only [Act.put, List.setIfInBounds_toArray, List.set_cons_zero, List.set_cons_succ, i64_w, i32_w]
        rfl
      refine one_ (i := 5) (N := some 17) #[true, true, true, true, true, true, false, false, false, false, false] rfl rfl (by kernel_rfl) (by decide) (fun K hK => ?_)
      refine goes_ Try.func70 (by kernel_rfl) rfl #[.slice AD R6.f1.length cD] (by rfl) rfl rfl (by (try simp only [List.map_toArray, List.map_cons, List.map_nil]); first | done | rfl) ?_
      refine (slices_Clone_int_int.calls AD cD R6.f1 R6.f1 _ HGD.out HLD.out HDD.out).mono ?_
      rintro e wa ⟨vd, rfl, hvd, hb⟩
      obtain ⟨BD, dD, evd⟩ := Kd.R_slice hvd
      subst evd
      have HLB := Aside0.mk (Kd.R_reads' hvd).2.1
      have HMD := Aside0.mk (Kd.R_mono (ok' := fun k => w.heap.size ≤ k ∧ some k ≠ u3.ownBlock) (Kd.R_lower (Kd.R_tight rfl hvd) HBD.out.size) (fun k hk => ⟨Nat.le_trans HBD.out.size (Kd.R_base hvd k hk.symm), fun e => by have h1 := Kd.R_lt HND.out k e.symm; have h2 := Kd.R_base hvd k hk.symm; omega⟩))
      replace HND := Aside0.mk (Kd.R_below HND.out hb)
      replace BK5D := Aside0.mk ((hb.block g5 (blk_lt BK5D.out)).trans BK5D.out)
      replace HBD := Aside0.mk (below_step HBD.out hb)
      clear hb hvd HGD
      refine ⟨_, rfl, ?_⟩
      refine hK.out _ _ ⟨(blk_cell BK5D.out 0).trans rfl, (blk_cell BK5D.out 1).trans rfl⟩ (fun hHeld => ?_)
      clear hK K
      refine norm_ (a' := ?_) ?_ ?_
      rotate_left
      · show Act.put _ (some 17) _ = _
        simp only [Act.put, List.setIfInBounds_toArray, List.set_cons_zero, List.set_cons_succ, i64_w, i32_w]
        rfl
      refine one_ (i := 6) (N := some 18) #[true, true, true, true, true, true, true, false, false, false, false] rfl rfl (by kernel_rfl) (by decide) (fun K hK => ?_)
      refine goes_ Try.func69 (by kernel_rfl) rfl #[.slice BD R6.f1.length dD] (by rfl) rfl rfl (by (try simp only [List.map_toArray, List.map_cons, List.map_nil]); first | done | rfl) ?_
      refine (clip_int BD R6.f1.length dD _ HLB.out).mono ?_
      rintro e wb ⟨rfl, hb⟩
      replace HMD := Aside0.mk (Kd.R_below HMD.out hb)
      replace HND := Aside0.mk (Kd.R_below HND.out hb)
      replace BK5D := Aside0.mk ((hb.block g5 (blk_lt BK5D.out)).trans BK5D.out)
      replace HBD := Aside0.mk (below_step HBD.out hb)
      clear hb
      refine ⟨_, rfl, ?_⟩
      refine hK.out _ _ ⟨(blk_cell BK5D.out 0).trans rfl, (blk_cell BK5D.out 1).trans rfl⟩ (fun hHeld => ?_)
      clear hK K
      refine norm_ (a' := ?_) ?_ ?_
      rotate_left
      · show Act.put _ (some 18) _ = _
        simp only [Act.put, List.setIfInBounds_toArray, List.set_cons_zero, List.set_cons_succ, i64_w, i32_w]
        rfl
      refine pure_ (i := 7) (N := some 19) (v := ?_) (a' := ?_) #[true, true, true, true, true, true, true, true, false, false, false] rfl rfl (by kernel_rfl) (fun _ _ _ h => h) (Or.inl ⟨by rfl, ?_⟩) ?_ ?_
      rotate_left
      · intro w'
        go_simp
        with_reducible rfl
      rotate_left
      · simp only [Act.put, List.setIfInBounds_toArray, List.set_cons_zero, List.set_cons_succ, i64_w, i32_w]
        rfl
      refine one_ (i := 8) (N := some 20) #[true, true, true, true, true, true, true, true, true, false, false] rfl rfl (by kernel_rfl) (by decide) (fun K hK => ?_)
      refine value_ (w1 := ?_) (v := ?_) (by rfl) rfl ?_ ?_
      rotate_left 2
      · go_simp
        constructor
        · rfl
        · rfl
      refine hK.out _ _ ⟨((below_alloc (Below.refl _ _) _).cell (World.block_lt_of_cell? _ _ ((blk_cell BK5D.out 0).trans rfl : _ = some (.bool R6.f0)))).trans ((blk_cell BK5D.out 0).trans rfl), ((below_alloc (Below.refl _ _) _).cell (World.block_lt_of_cell? _ _ ((blk_cell BK5D.out 1).trans rfl : _ = some (.slice AD R6.f1.length cD)))).trans ((blk_cell BK5D.out 1).trans rfl)⟩ (fun hHeld => ?_)
      clear hK K
      refine norm_ (a' := ?_) ?_ ?_
      rotate_left
      · show Act.put _ (some 20) _ = _
        simp only [Act.put, List.setIfInBounds_toArray, List.set_cons_zero, List.set_cons_succ, i64_w, i32_w]
        rfl
      refine last_ (i := 9) (N := some 21) #[true, true, true, true, true, true, true, true, true, true, false] rfl rfl (by kernel_rfl) (by decide) (fun K hK => ?_)
      refine Kd.R_append_step kc38 (w0 := w) w.heap.size (by rfl) (.tmp 12) (.tmp 20) 22 38 (.agg #[.bool false, .slice none 0 0]) 32 rfl Try.underlying22 infoSeg rfl (by decide) (by omega) u3 (l1.take x) R6 [.bool R6.f0, .slice BD R6.f1.length R6.f1.length] (fun k => w.heap.size ≤ k) (fun k => w.heap.size ≤ k ∧ some k ≠ u3.ownBlock) rfl rfl ?aP (fun _ hk => hk) (fun _ hk => Nat.le_trans HBD.out.size hk) ?aO ?aB ?aS ?aL ?_
      (case aP => exact ⟨[.bool R6.f0], [.slice BD R6.f1.length R6.f1.length], rfl, rfl, BD, R6.f1.length, R6.f1.length, dD, rfl, Nat.le_refl _, HMD.out⟩)
      (case aO => exact HND.out)
      (case aB => exact HBD.out)
      (case aS => exact HBD.out.size)
      (case aL => have := H4.out; have := List.length_take_le x l1; have := HQ.out; omega)
      intro v9 w9 ho9 hb9 hg9 hat9
      have HN9 := Aside0.mk ho9
      have HB9 := Aside0.mk hb9
      clear ho9 hb9 hg9 hat9
      refine hK.out _ _ ?_
      clear hK K
      refine norm_ (a' := ?_) ?_ ?_
      rotate_left
      · show Act.put _ (some 21) _ = _
        simp only [Act.put, List.setIfInBounds_toArray, List.set_cons_zero, List.set_cons_succ, i64_w, i32_w]
        rfl
      refine pure_ (i := 10) (N := some 3) (v := ?_) (a' := ?_) #[true, true, true, true, true, true, true, true, true, true, true] rfl rfl (by kernel_rfl) (fun _ _ _ h => h) (Or.inl ⟨by rfl, ?_⟩) ?_ ?_
      rotate_left
      · intro w'
        go_simp
        with_reducible rfl
      rotate_left
      · simp only [Act.put, List.setIfInBounds_toArray, List.set_cons_zero, List.set_cons_succ, i64_w, i32_w]
        rfl
      refine done_ (by kernel_rfl) ?_
      go_wp2
      go_roundg k1
      case measure => omega
      case rel =>
        refine ⟨x + 1, ?ii, ⟨by have := HM.out; omega, by have := HQ.out; omega⟩, ⟨by rw [HTK.out]; exact HN9.out⟩, HB9⟩
        case ii =>
          have hw : wrap64 ((x : Nat) + 1 : Int) = ((x + 1 : Nat) : Int) := by
            have := HQ.out
            have := H4.out
            unfold wrap64
            omega
          first | rfl | (simp [hw]; done) | (rw [hw])
    · have c4b0 : decide (((x : Nat) : Int) < (l1.length : Int)) = false := decide_eq_false (by omega)
      have HN2 := Aside0.mk (show Kd.R kc38 38 wr w.heap.size (fun k => w.heap.size ≤ k) u3 l1 from by
        have hN := HN.out
        rw [List.take_of_length_le (by omega)] at hN
        exact hN)
      obtain ⟨BL, dL, eL⟩ := Kd.R_slice HN2.out
      subst eL
      have hlL := (Kd.R_reads' HN2.out).2.1
      clear HN
      go_wp2_with (first | ((with_reducible refine gate_callee (f := 71) rfl ?_); refine goesL_ (some 24) rfl rfl Try.func71 (by kernel_rfl) rfl #[.slice BL l1.length dL] rfl (by (try simp only [List.map_toArray, List.map_cons, List.map_nil]); first | done | rfl) ?_; refine (clip_seg BL l1.length dL _ hlL).mono ?_; rintro e wc ⟨rfl, hb⟩; refine ⟨_, rfl, ?_⟩; have HBC := Aside0.mk (below_step HBL.out hb); have HNC := Aside0.mk (Kd.R_below HN2.out hb); clear hb))
      go_ret
      exact ⟨BL, l1.length, dL, rfl, Nat.le_refl _, HNC.out, HBC.out⟩
theorem new_ge {v : Value} {n : Nat} (h : ∃ b, v.ownBlock = some b ∧ n ≤ b) : ∀ k, v.ownBlock = some k → n ≤ k := fun k hk => by
  obtain ⟨b, hb, hle⟩ := h
  rw [hk] at hb
  injection hb with hb
  omega
theorem kc_mk {w : World} {base : Nat} {ok : Nat → Prop} {b : Bool} {xs : List Int} {A : Option Addr} {n c c' : Nat} (hl : n ≤ c) (h : (Kd.int .i64).R 3 w base ok (.slice A n c') xs) : kc38.M w base ok (⟨b, xs⟩ : S38) [.bool b, .slice A n c] := ⟨[.bool b], [.slice A n c], rfl, rfl, A, n, c, c', rfl, hl, h⟩
/-- A path with a number ahead. -/
def prependV (l : List S38) (a : Int) : List S38 :=
  match l with
  | [] => [⟨false, [a]⟩]
  | s :: r => if s.f0 = true ∨ 255 ≤ s.f1.length then ⟨false, [a]⟩ :: s :: r else ⟨s.f0, a :: s.f1⟩ :: r
theorem prependV_new {l : List S38} (a : Int) (h : l = [] ∨ (l.getD 0 z38).f0 = true ∨ 255 ≤ (l.getD 0 z38).f1.length) : prependV l a = [⟨false, [a]⟩] ++ l := by
  cases l with
  | nil => rfl
  | cons s r =>
    show (if s.f0 = true ∨ 255 ≤ s.f1.length then _ else _ : List S38) = _
    rw [if_pos (by simpa using h)]
    rfl
theorem prependV_in {l : List S38} (a : Int) (hl : 0 < l.length) (h0 : (l.getD 0 z38).f0 = false) (h1 : ¬ 255 ≤ (l.getD 0 z38).f1.length) : prependV l a = l.set 0 ⟨(l.getD 0 z38).f0, [a] ++ (l.getD 0 z38).f1⟩ := by
  cases l with
  | nil => simp at hl
  | cons s r =>
    show (if s.f0 = true ∨ 255 ≤ s.f1.length then _ else _ : List S38) = _
    have h0' : s.f0 = false := h0
    have h1' : ¬ 255 ≤ s.f1.length := h1
    rw [if_neg (by rw [h0']; simp; omega)]
    rfl
section
variable {α : Type} {d : Kd α} {e : Nat} {w : World} {base : Nat} {ok : Nat → Prop} {xs : List α}
/-- The elements of a row of the call's own, as an append reads them. -/
theorem R_readsM {A : Option Addr} {n c : Nat} (h : d.R e w base ok (.slice A n c) xs) : ReadsRow (d.M w base ok) d.sz w A n xs := by
  have hn : n = xs.length := (Kd.R_reads' h).1
  obtain ⟨A', c', he', _, hrow⟩ := OwnRow.reads h.2
  injection he' with hA' _ _
  subst hA' hn
  exact hrow.imp_ (Below.refl _ _) (fun _ _ hp => d.M_mono (fun _ hk => hk.1) hp)
end
/-- The first segment of a path of the call's own. -/
theorem own_first {w : World} {base : Nat} {ok : Nat → Prop} {A : Option Addr} {n c : Nat} {l : List S38} (h : kc38.R 38 w base ok (.slice A n c) l) (hl : 0 < l.length) : ∃ g A1 m c1 c1', A = some ⟨g, 0, none⟩ ∧ (∃ cells, w.heap[g]? = some (.cells cells 38 (0, 0))) ∧ w.cell? ⟨g, 0, none⟩ = some (.bool (l.getD 0 z38).f0) ∧ w.cell? ⟨g, 1, none⟩ = some (.slice A1 m c1) ∧ m ≤ c1 ∧ (Kd.int .i64).R 3 w base (fun k => ok k ∧ some k ≠ (Value.slice A n c).ownBlock) (.slice A1 m c1') (l.getD 0 z38).f1 := by
  have hn : n = l.length := (Kd.R_reads' h).1
  obtain ⟨g, cs, hA, _, hcells, _, ⟨c0, c1, rfl, p0, p1⟩, hc⟩ := R_get h z38 0 (by omega) (by omega)
  obtain ⟨A1, m, c1, c1', rfl, hle, hr⟩ := p1
  have p0' : c0 = [.bool (l.getD 0 z38).f0] := p0
  subst p0'
  have hc' : ∀ j u, ([.bool (l.getD 0 z38).f0, .slice A1 m c1] : List Value)[j]? = some u → w.cell? ((⟨g, 0, none⟩ : Addr).add (0 * 2 + j)) = some u := hc
  refine ⟨g, A1, m, c1, c1', hA, hcells, ?_, ?_, hle, hr⟩
  · have := hc' 0 _ rfl
    simpa [Addr.add] using this
  · have := hc' 1 _ rfl
    simpa [Addr.add] using this
theorem kc_fit (v : Value) : 1 + ([v] : List Value).length ≤ kc38.sz := Nat.le_refl 2
theorem R_Cm {α : Type} {d : Kd α} {e : Nat} {w : World} {base : Nat} {ok : Nat → Prop} {A : Option Addr} {n c : Nat} {xs : List α} (h : d.R e w base ok (.slice A n c) xs) : d.C w A n xs := by
  have h2 := Kd.R_reads' h
  rw [h2.1]
  exact h2.2.2
theorem two_cells {w : World} {g : Nat} {u0 u1 : Value} (h0 : w.cell? ⟨g, 0, none⟩ = some u0) (h1 : w.cell? ⟨g, 1, none⟩ = some u1) : ∀ (j : Nat) (u : Value), ([u0, u1] : List Value)[j]? = some u → w.cell? ⟨g, (0 : Int).toNat * 2 + j, none⟩ = some u := by
  intro j u h
  match j with
  | 0 =>
    injection h with h
    subst h
    simpa using h0
  | 1 =>
    injection h with h
    subst h
    simpa using h1
  | j + 2 => simp at h
theorem prependV_len (l : List S38) (a : Int) : (prependV l a).length ≤ l.length + 1 := by
  unfold prependV
  split
  · simp
  · split <;> simp
set_option maxHeartbeats 4000000 in
set_option maxRecDepth 100000 in
theorem path_prepend (A1 : Option Addr) (c1 : Nat) (l1 : List S38) (a : Int) (w : World) (hr1 : Kd.C k38 w A1 l1.length l1) (hc1 : l1.length ≤ c1) (h4 : l1.length < 4000) (hd : ∀ y ∈ l1, slices_Clone_int_int.f y.f1 = some y.f1) (h5 : ∀ y ∈ l1, y.f1.length < 4000) :
    Calls Try.prog 39 #[.slice A1 l1.length c1, .int .i64 a] w fun e w' => ∃ Q n q q', e = .returned (.slice Q n q) ∧ n = (prependV l1 a).length ∧ n ≤ q ∧ Kd.R kc38 38 w' w.heap.size (fun k => w.heap.size ≤ k) (.slice Q n q') (prependV l1 a) ∧ Below w.heap.size w w' := by
  have HR1 := Aside0.mk hr1
  have HC := Aside0.mk hc1
  have H4 := Aside0.mk h4
  have H5 := Aside0.mk h5
  have HD := Aside0.mk hd
  have hu38 := Try.underlying38
  have HB := Aside0.mk (Below.refl w.heap.size w)
  obtain ⟨y, hy⟩ : ∃ y : List Int, y = [a] := ⟨_, rfl⟩
  obtain ⟨y2, hy2⟩ : ∃ y2 : List S38, y2 = [⟨false, y⟩] := ⟨_, rfl⟩
  obtain ⟨y3, hy3⟩ : ∃ y3 : List S38, y3 = y2 ++ l1 := ⟨_, rfl⟩
  have LY := Aside0.mk (show y.length = 1 by rw [hy]; rfl)
  have LY2 := Aside0.mk (show y2.length = 1 by rw [hy2]; rfl)
  have NY := Aside0.mk hy
  have NY2 := Aside0.mk hy2
  have NY3 := Aside0.mk hy3
  clear hr1 hc1 h4 hd h5 hy hy2 hy3
  go_enter Try.func39, Try.ntmps39
  go_upto_region 2 with (first | (go_at_call 55; with_reducible refine (path_own A1 c1 l1 _ HR1.out HC.out H4.out HD.out).mono ?_; rintro e w1 ⟨B, d, d', rfl, hl, hq, hb⟩; have HL := Aside0.mk hl; have HQ := Aside0.mk hq; have HB1 := Aside0.mk hb; clear hl hq hb))
  by_cases h0 : l1.length = 0
  · have H0 := Aside0.mk h0
    have e0 : ((l1.length : Int) == 0) = true := by rw [h0]; rfl
    have e1 : (l1.length == 0) = true := by rw [h0]; rfl
    clear h0
    go_wp2_with (first | ((with_reducible refine gate_dst (N := 26) rfl ?_); refine Kd.R_lit (Kd.int .i64) _ 3 ?hg (N := 26) ?hd (xs := ([a] : List Int)) (inner := [.int .i64 a]) (ok := fun _ => True) (okp := fun _ => True) ?hr ?hp (fun _ hk => hk) trivial (Below.refl _ _) (Nat.le_refl _) (by simp) ?_; (case hd => rfl); (case hg => rfl); (case hr => first | (go_simp; done) | (go_simp; rfl) | (go_simp; simp [IntKind.wrap_u8, IntKind.wrap_u32]; done)); (case hp => exact (Reps.one (show Kd.M (Kd.int .i64) _ _ _ a [.int .i64 a] from rfl) (Reps.none _ _))); intro v1 w2 ho hb hg_ hnew_; clear hg_ hnew_; rw [← NY.out] at ho; have HA2 := Aside0.mk (Kd.R_mono (ok' := (fun k => w.heap.size ≤ k)) (Kd.R_lower (Kd.R_bound ho) HB1.out.size) (fun k hk => Nat.le_trans HB1.out.size hk.2.1)); have HQ2 := Aside0.mk (Kd.R_below HQ.out hb); obtain ⟨Ao, co, eo⟩ := Kd.R_slice HA2.out; subst eo; have HB2 := Aside0.mk (below_step HB1.out hb); clear ho hb) | ((with_reducible refine gate_dst (N := 28) rfl ?_); refine Kd.R_lit kc38 (w0 := w) w.heap.size 38 ?hg (N := 28) ?hd (xs := ([⟨false, y⟩] : List S38)) (inner := [.bool false, .slice Ao y.length co]) (ok := (fun k => w.heap.size ≤ k)) (okp := (fun k => w.heap.size ≤ k)) ?hr ?hp (fun _ hk => hk) HB2.out.size HB2.out HB2.out.size (by simp) ?_; (case hd => rfl); (case hg => rfl); (case hr => first | (go_simp; done) | (go_simp; rfl) | (go_simp; simp [IntKind.wrap_u8, IntKind.wrap_u32]; done)); (case hp => exact (Reps.c2 (show kc38.M _ _ _ (⟨false, y⟩ : S38) [.bool false, .slice Ao y.length co] from kc_mk (Kd.R_reads' HA2.out).2.1 HA2.out) (Reps.none _ _))); intro v2 w3 ho hb hg_ hnew_; rw [← NY2.out] at ho; have HQ3 := Aside0.mk (Kd.R_elder' HQ2.out (new_ge hnew_) ((Below.refl _ _).grown hg_ (Nat.le_refl _) (fun k e => by cases e))); have HL3 := Aside0.mk ho; have HB3 := Aside0.mk hb; clear ho hb hg_ hnew_) | ((with_reducible refine gate_builtin (b := .append) (xs := #[.tmp 28, .tmp 29]) rfl ?_); at_builtin; refine Kd.R_append_rows kc38 (w0 := w) w.heap.size rfl (.tmp 28) (.tmp 29) 22 38 (.agg #[.bool false, .slice none 0 0]) 32 rfl Try.underlying22 infoSeg rfl (by decide) (by omega) v2 y2 l1 B l1.length d (fun k => w.heap.size ≤ k) (fun k => w.heap.size ≤ k ∧ some k ≠ v2.ownBlock) rfl rfl HL3.out (R_readsM HQ3.out) (fun _ _ h => h) (fun _ hk => hk) (fun _ hk => Nat.le_trans HB3.out.size hk) HB3.out HB3.out.size (by have := H4.out; have := LY2.out; omega) ?_; intro v3 w4 ho hb hg hat; rw [← NY3.out] at ho; obtain ⟨Qo, cq, eq_⟩ := Kd.R_slice ho; subst eq_; have HF4 := Aside0.mk ho; have HB4 := Aside0.mk hb; clear ho hb hg hat))
    go_ret
    exact ⟨Qo, _, cq, cq, rfl, by rw [prependV_new a (Or.inl (List.length_eq_zero_iff.mp H0.out)), NY3.out, NY2.out, NY.out], (Kd.R_reads' HF4.out).2.1, by rw [prependV_new a (Or.inl (List.length_eq_zero_iff.mp H0.out)), ← NY.out, ← NY2.out, ← NY3.out]; exact HF4.out, HB4.out⟩
  · have e0 : ((l1.length : Int) == 0) = false := beq_eq_false_iff_ne.mpr (by omega)
    have e1 : (l1.length == 0) = false := beq_eq_false_iff_ne.mpr h0
    have H0 := Aside0.mk h0
    obtain ⟨g, F1, m, f1, f1', hB, hcells, hx0, hx1, hmf, hri⟩ := own_first HQ.out (by omega)
    obtain ⟨cells, hcells⟩ := hcells
    subst hB
    have HG := Aside0.mk hcells
    have HMF := Aside0.mk hmf
    have HRI := Aside0.mk hri
    have HLM := Aside0.mk (Kd.R_reads' hri).1
    have q0 : (0 < (l1.length : Int)) = True := eq_true (by omega)
    have q1 : (0 < l1.length) = True := eq_true (by omega)
    clear hcells hmf hri h0
    obtain ⟨s0, hs0⟩ : ∃ s0, l1.getD 0 z38 = s0 := ⟨_, rfl⟩
    have HS := Aside0.mk hs0
    rw [hs0] at hx0
    rw [hs0] at HRI HLM
    rcases hf : s0.f0 with _ | _
    · rw [hf] at hx0
      have HF0 := Aside0.mk hf
      by_cases h255 : 255 ≤ m
      · have cg : decide ((255 : Int) ≤ (m : Int)) = true := decide_eq_true (by omega)
        have cg1 : decide (255 ≤ m) = true := decide_eq_true h255
        have H255 := Aside0.mk h255
        clear hf h255 hs0
        go_wp2_with (first | ((with_reducible refine gate_dst (N := 26) rfl ?_); refine Kd.R_lit (Kd.int .i64) _ 3 ?hg (N := 26) ?hd (xs := ([a] : List Int)) (inner := [.int .i64 a]) (ok := fun _ => True) (okp := fun _ => True) ?hr ?hp (fun _ hk => hk) trivial (Below.refl _ _) (Nat.le_refl _) (by simp) ?_; (case hd => rfl); (case hg => rfl); (case hr => first | (go_simp; done) | (go_simp; rfl) | (go_simp; simp [IntKind.wrap_u8, IntKind.wrap_u32]; done)); (case hp => exact (Reps.one (show Kd.M (Kd.int .i64) _ _ _ a [.int .i64 a] from rfl) (Reps.none _ _))); intro v1 w2 ho hb hg_ hnew_; clear hg_ hnew_; rw [← NY.out] at ho; have HA2 := Aside0.mk (Kd.R_mono (ok' := (fun k => w.heap.size ≤ k)) (Kd.R_lower (Kd.R_bound ho) HB1.out.size) (fun k hk => Nat.le_trans HB1.out.size hk.2.1)); have HQ2 := Aside0.mk (Kd.R_below HQ.out hb); obtain ⟨Ao, co, eo⟩ := Kd.R_slice HA2.out; subst eo; have HB2 := Aside0.mk (below_step HB1.out hb); clear ho hb) | ((with_reducible refine gate_dst (N := 28) rfl ?_); refine Kd.R_lit kc38 (w0 := w) w.heap.size 38 ?hg (N := 28) ?hd (xs := ([⟨false, y⟩] : List S38)) (inner := [.bool false, .slice Ao y.length co]) (ok := (fun k => w.heap.size ≤ k)) (okp := (fun k => w.heap.size ≤ k)) ?hr ?hp (fun _ hk => hk) HB2.out.size HB2.out HB2.out.size (by simp) ?_; (case hd => rfl); (case hg => rfl); (case hr => first | (go_simp; done) | (go_simp; rfl) | (go_simp; simp [IntKind.wrap_u8, IntKind.wrap_u32]; done)); (case hp => exact (Reps.c2 (show kc38.M _ _ _ (⟨false, y⟩ : S38) [.bool false, .slice Ao y.length co] from kc_mk (Kd.R_reads' HA2.out).2.1 HA2.out) (Reps.none _ _))); intro v2 w3 ho hb hg_ hnew_; rw [← NY2.out] at ho; have HQ3 := Aside0.mk (Kd.R_elder' HQ2.out (new_ge hnew_) ((Below.refl _ _).grown hg_ (Nat.le_refl _) (fun k e => by cases e))); have HL3 := Aside0.mk ho; have HB3 := Aside0.mk hb; clear ho hb hg_ hnew_) | ((with_reducible refine gate_builtin (b := .append) (xs := #[.tmp 28, .tmp 29]) rfl ?_); at_builtin; refine Kd.R_append_rows kc38 (w0 := w) w.heap.size rfl (.tmp 28) (.tmp 29) 22 38 (.agg #[.bool false, .slice none 0 0]) 32 rfl Try.underlying22 infoSeg rfl (by decide) (by omega) v2 y2 l1 (some ⟨g, 0, none⟩) l1.length d (fun k => w.heap.size ≤ k) (fun k => w.heap.size ≤ k ∧ some k ≠ v2.ownBlock) rfl rfl HL3.out (R_readsM HQ3.out) (fun _ _ h => h) (fun _ hk => hk) (fun _ hk => Nat.le_trans HB3.out.size hk) HB3.out HB3.out.size (by have := H4.out; have := LY2.out; omega) ?_; intro v3 w4 ho hb hg hat; rw [← NY3.out] at ho; obtain ⟨Qo, cq, eq_⟩ := Kd.R_slice ho; subst eq_; have HF4 := Aside0.mk ho; have HB4 := Aside0.mk hb; clear ho hb hg hat))
        go_ret
        exact ⟨Qo, _, cq, cq, rfl, by rw [prependV_new a (Or.inr (Or.inr (by rw [HS.out, ← HLM.out]; exact H255.out))), NY3.out, NY2.out, NY.out], (Kd.R_reads' HF4.out).2.1, by rw [prependV_new a (Or.inr (Or.inr (by rw [HS.out, ← HLM.out]; exact H255.out))), ← NY.out, ← NY2.out, ← NY3.out]; exact HF4.out, HB4.out⟩
      · have cg : decide ((255 : Int) ≤ (m : Int)) = false := decide_eq_false (by omega)
        have cg1 : decide (255 ≤ m) = false := decide_eq_false h255
        have H255 := Aside0.mk h255
        have HM0 := Aside0.mk (show s0 ∈ l1 from by rw [← hs0, List.getD_eq_getElem?_getD, List.getElem?_eq_getElem (by have := H0.out; omega)]; exact List.getElem_mem _)
        clear hf h255 hs0
        have HM5 := Aside0.mk (show m < 4000 from by rw [HLM.out]; exact H5.out _ HM0.out)
        have HRC := Aside0.mk (R_Cm HRI.out)
        obtain ⟨z1, hz1⟩ : ∃ z1 : List Int, z1 = y ++ s0.f1 := ⟨_, rfl⟩
        have NZ := Aside0.mk hz1
        clear hz1
        go_wp2_with (first | ((with_reducible refine gate_dst (N := 33) rfl ?_); refine Kd.R_lit (Kd.int .i64) _ 3 ?hg (N := 33) ?hd (xs := ([a] : List Int)) (inner := [.int .i64 a]) (ok := fun _ => True) (okp := fun _ => True) ?hr ?hp (fun _ hk => hk) trivial (Below.refl _ _) (Nat.le_refl _) (by simp) ?_; (case hd => rfl); (case hg => rfl); (case hr => first | (go_simp; done) | (go_simp; rfl) | (go_simp; simp [IntKind.wrap_u8, IntKind.wrap_u32]; done)); (case hp => exact (Reps.one (show Kd.M (Kd.int .i64) _ _ _ a [.int .i64 a] from rfl) (Reps.none _ _))); intro v1 w2 ho hb hg_ hnew_; clear hg_ hnew_; rw [← NY.out] at ho; have HA2 := Aside0.mk (Kd.R_mono (ok' := (fun k => w.heap.size ≤ k)) (Kd.R_lower (Kd.R_bound ho) HB1.out.size) (fun k hk => Nat.le_trans HB1.out.size hk.2.1)); have HQ2 := Aside0.mk (Kd.R_elder' HQ.out (Kd.R_base ho) hb); have HG2 := Aside0.mk ((hb.block _ (blk_lt HG.out)).trans HG.out); have HC2 := Aside0.mk (Kd.C_below HRC.out hb); replace hx0 := (hb.cell (World.block_lt_of_cell? _ _ hx0)).trans hx0; replace hx1 := (hb.cell (World.block_lt_of_cell? _ _ hx1)).trans hx1; have HB2 := Aside0.mk (below_step HB1.out hb); clear ho hb) | ((with_reducible refine gate_builtin (b := .append) (xs := #[.tmp 33, .tmp 37]) rfl ?_); at_builtin; refine Kd.R_append_rows (Kd.int .i64) (w0 := w) w.heap.size rfl (.tmp 33) (.tmp 37) 36 3 (.int .i64 0) 8 rfl Try.underlying36 (show (Try.prog.info? 3).map (fun i => (i.zero, i.size, i.bytes)) = some (some (.int .i64 0), 1, 8) from by kernel_rfl) rfl (by decide) (by omega) v1 y s0.f1 F1 m f1 (fun k => w.heap.size ≤ k) (fun _ => False) rfl rfl HA2.out HC2.out (fun _ _ h => h) (fun _ hk => hk.elim) (fun _ hk => Nat.le_trans HB2.out.size hk) HB2.out HB2.out.size (by have := HM5.out; have := LY.out; omega) ?_; intro v3 w3 ho hb hg hat; rw [← NZ.out] at ho; have hne := Kd.R_ne HA2.out HG2.out (by decide); have HG3 := Aside0.mk ((hg.block _ (blk_lt HG2.out) hne).trans HG2.out); have HX0 := Aside0.mk (cell_grown hg hx0 hne); have HX1 := Aside0.mk (cell_grown hg hx1 hne); have HQ3 := Aside0.mk (Kd.R_mono (ok' := (fun k => w.heap.size ≤ k)) (Kd.R_grown HQ2.out hg (fun k hk => hk.2)) (fun k hk => hk.1)); have HB3 := Aside0.mk hb; have HNG := Aside0.mk (Kd.R_ne ho HG3.out (by decide)); obtain ⟨Qi, qi, eqi⟩ := Kd.R_slice ho; subst eqi; have HZ3 := Aside0.mk ho; have HMZ := Aside0.mk (kc_mk (b := false) (Kd.R_reads' ho).2.1 (Kd.R_tight2 rfl ho)); clear ho hb hg hat hne hx0 hx1) | ((with_reducible refine gate_store (t := 36) (p := 40) rfl ?_); refine Kd.R_store kc38 (w0 := w) w.heap.size rfl rfl 36 (.tmp 40) (.tmp 38) rfl 38 (g := g) (n := l1.length) (cap := d') 0 1 l1 (⟨false, z1⟩ : S38) _ [.slice Qi z1.length qi] [.bool false, .slice F1 m f1] (fun k => w.heap.size ≤ k) (fun k => some k = (Value.slice Qi z1.length qi).ownBlock ∧ w.heap.size ≤ k) rfl rfl rfl rfl (by kernel_rfl) (by intro q hq; rw [List.mem_singleton.1 hq]; rfl) HQ3.out (by omega) (by have := H0.out; omega) rfl (two_cells HX0.out HX1.out) (kc_fit _) HMZ.out (fun k hk => ⟨hk.2, fun e => HNG.out (by rw [← e]; exact hk.1)⟩) HB3.out ?_; intro w4 ho hb hg; have HF4 := Aside0.mk ho; have HB4 := Aside0.mk hb; clear ho hb hg))
        go_ret
        exact ⟨some ⟨g, 0, none⟩, l1.length, d, d', rfl, by rw [prependV_in a (by have := H0.out; omega) (by rw [HS.out]; exact HF0.out) (by rw [HS.out, ← HLM.out]; exact H255.out), List.length_set], HL.out, by rw [prependV_in a (by have := H0.out; omega) (by rw [HS.out]; exact HF0.out) (by rw [HS.out, ← HLM.out]; exact H255.out), HS.out, HF0.out, ← NY.out, ← NZ.out]; exact HF4.out, HB4.out⟩
    · rw [hf] at hx0
      have HF0 := Aside0.mk hf
      clear hf hs0
      go_wp2_with (first | ((with_reducible refine gate_dst (N := 26) rfl ?_); refine Kd.R_lit (Kd.int .i64) _ 3 ?hg (N := 26) ?hd (xs := ([a] : List Int)) (inner := [.int .i64 a]) (ok := fun _ => True) (okp := fun _ => True) ?hr ?hp (fun _ hk => hk) trivial (Below.refl _ _) (Nat.le_refl _) (by simp) ?_; (case hd => rfl); (case hg => rfl); (case hr => first | (go_simp; done) | (go_simp; rfl) | (go_simp; simp [IntKind.wrap_u8, IntKind.wrap_u32]; done)); (case hp => exact (Reps.one (show Kd.M (Kd.int .i64) _ _ _ a [.int .i64 a] from rfl) (Reps.none _ _))); intro v1 w2 ho hb hg_ hnew_; clear hg_ hnew_; rw [← NY.out] at ho; have HA2 := Aside0.mk (Kd.R_mono (ok' := (fun k => w.heap.size ≤ k)) (Kd.R_lower (Kd.R_bound ho) HB1.out.size) (fun k hk => Nat.le_trans HB1.out.size hk.2.1)); have HQ2 := Aside0.mk (Kd.R_below HQ.out hb); obtain ⟨Ao, co, eo⟩ := Kd.R_slice HA2.out; subst eo; have HB2 := Aside0.mk (below_step HB1.out hb); clear ho hb) | ((with_reducible refine gate_dst (N := 28) rfl ?_); refine Kd.R_lit kc38 (w0 := w) w.heap.size 38 ?hg (N := 28) ?hd (xs := ([⟨false, y⟩] : List S38)) (inner := [.bool false, .slice Ao y.length co]) (ok := (fun k => w.heap.size ≤ k)) (okp := (fun k => w.heap.size ≤ k)) ?hr ?hp (fun _ hk => hk) HB2.out.size HB2.out HB2.out.size (by simp) ?_; (case hd => rfl); (case hg => rfl); (case hr => first | (go_simp; done) | (go_simp; rfl) | (go_simp; simp [IntKind.wrap_u8, IntKind.wrap_u32]; done)); (case hp => exact (Reps.c2 (show kc38.M _ _ _ (⟨false, y⟩ : S38) [.bool false, .slice Ao y.length co] from kc_mk (Kd.R_reads' HA2.out).2.1 HA2.out) (Reps.none _ _))); intro v2 w3 ho hb hg_ hnew_; rw [← NY2.out] at ho; have HQ3 := Aside0.mk (Kd.R_elder' HQ2.out (new_ge hnew_) ((Below.refl _ _).grown hg_ (Nat.le_refl _) (fun k e => by cases e))); have HL3 := Aside0.mk ho; have HB3 := Aside0.mk hb; clear ho hb hg_ hnew_) | ((with_reducible refine gate_builtin (b := .append) (xs := #[.tmp 28, .tmp 29]) rfl ?_); at_builtin; refine Kd.R_append_rows kc38 (w0 := w) w.heap.size rfl (.tmp 28) (.tmp 29) 22 38 (.agg #[.bool false, .slice none 0 0]) 32 rfl Try.underlying22 infoSeg rfl (by decide) (by omega) v2 y2 l1 (some ⟨g, 0, none⟩) l1.length d (fun k => w.heap.size ≤ k) (fun k => w.heap.size ≤ k ∧ some k ≠ v2.ownBlock) rfl rfl HL3.out (R_readsM HQ3.out) (fun _ _ h => h) (fun _ hk => hk) (fun _ hk => Nat.le_trans HB3.out.size hk) HB3.out HB3.out.size (by have := H4.out; have := LY2.out; omega) ?_; intro v3 w4 ho hb hg hat; rw [← NY3.out] at ho; obtain ⟨Qo, cq, eq_⟩ := Kd.R_slice ho; subst eq_; have HF4 := Aside0.mk ho; have HB4 := Aside0.mk hb; clear ho hb hg hat))
      go_ret
      exact ⟨Qo, _, cq, cq, rfl, by rw [prependV_new a (Or.inr (Or.inl (by rw [HS.out]; exact HF0.out))), NY3.out, NY2.out, NY.out], (Kd.R_reads' HF4.out).2.1, by rw [prependV_new a (Or.inr (Or.inl (by rw [HS.out]; exact HF0.out))), ← NY.out, ← NY2.out, ← NY3.out]; exact HF4.out, HB4.out⟩
theorem R_drewP {α : Type} {d : Kd α} {e : Nat} {w : World} {base : Nat} {ok : Nat → Prop} {v : Value} {xs : List α} (h : d.R e w base ok v xs) : d.R e w.drew base ok v xs := Kd.R_below h (below_drew (Below.refl _ _))
theorem seg_heap : Kd.Heap k38 := Kd.heap_iso _ (Kd.heap_pair Kd.heap_bool (Kd.heap_slice _ (Kd.heap_int _)))
/-- A path that came in, as a view. -/
theorem seg_V {w : World} {A : Option Addr} {c : Nat} {l : List S38} (hc : l.length ≤ c) (h : Kd.C k38 w A l.length l) : Kd.V k38 38 w w.heap.size (fun k => k < w.heap.size) (.slice A l.length c) l := Kd.V_mk hc (Kd.C_F seg_heap h)
section
variable {P : Program} {ops : Array Oper} {op : Oper} {a : Act} {Q : Exit → Act → World → Prop} {Kc : Act → World → Prop}
/-- 'make([]int, 0, n)' in a region that draws its order. -/
theorem make_room_int {W : World} (hw : Region.wanted op (yielded ops a.tmps) = true) {N : Tmp} (hd : op.dst = some N) (t e : TypeId) (x y : Operand) (ho : op.op = .makeSlice t x y) (C : Int) (n : Nat) (hx : a.eval x = .int .i64 0) (hy : a.eval y = .int .i64 C) (hC : C = (n : Int))
    (ht : P.underlying t = some (.slice e)) (hinfo : (P.info? e).map (fun i => (i.zero, i.size, i.bytes)) = some (some (.int .i64 0), 1, 8)) (hl : n < 10000)
    (h : ∀ w1, Kd.R (Kd.int .i64) e w1 W.heap.size (fun _ => True) (.slice (some ⟨W.heap.size, 0, none⟩) 0 n) [] → Below W.heap.size W w1 → Kc (a.put op.dst (.slice (some ⟨W.heap.size, 0, none⟩) 0 n)) w1) :
    if Region.wanted op (yielded ops a.tmps) = true then Oper.wp P op a W Kc Q else Kc (a.put op.dst undef) W := by
  obtain ⟨i, hi, he⟩ := Option.map_eq_some_iff.mp hinfo
  simp only [Prod.mk.injEq] at he
  obtain ⟨hz, hsz, hby⟩ := he
  subst hC
  obtain ⟨w1, hrun, hown, hg⟩ := run_make_own (P := P) (w := W) W.heap.size t e i (.int .i64 0) 1 ht hi hz hsz .i64 .i64 n (by rw [hby]; omega) (by unfold maxLen; omega) (Nat.le_refl _)
  rw [if_pos hw]
  unfold Oper.wp
  simp [execOp, ho, hx, hy, hrun, Result.andThen]
  exact h w1 (Kd.R_of_own hown (fun _ _ => trivial)) ((Below.refl _ _).grown hg (Nat.le_refl _) (fun k e => by cases e))
end
/-- Segments of which only the lengths are known. -/
def shSeg : Kd (Bool × Nat) := Kd.pair Kd.bool (lenRow 3 .i64)
def segSh (l : List S38) : List (Bool × Nat) := l.map fun x => (x.f0, x.f1.length)
theorem segSh_len (l : List S38) : (segSh l).length = l.length := by simp [segSh]
section
variable {w W : World} {base : Nat} {ok : Nat → Prop} {B : Option Addr} {r : Nat} {l : List S38} {L : List (Bool × Nat)} {v : Value}
theorem segs_of (h : kc38.R 38 w base ok (.slice B l.length r) l) : shSeg.R 38 w base ok (.slice B (segSh l).length r) (segSh l) := by
  rw [segSh_len]
  refine R_map (d := kc38) (d' := shSeg) (fun x => (x.f0, x.f1.length)) rfl (fun ok x cs hM => ?_) h
  obtain ⟨c0, c1, rfl, h0, h1⟩ := hM
  exact ⟨c0, c1, rfl, h0, cut_shape h1⟩
theorem segs_put (h : shSeg.R 38 w base ok v L) {g j : Nat} {x : Int} {cells : Array Value} (hg : w.heap[g]? = some (.cells cells 3 (0, 0))) : shSeg.R 38 (w.setCell ⟨g, j, none⟩ (.int .i64 x)) base ok v L := by
  refine R_putM h (fun k hk => Below.heap_setCell _ _ _ _ (fun e' => Kd.R_ne h hg (by decide) (by have e2 : k = g := e'; rw [← e2]; exact hk.symm))) (fun ok x cs hM => ?_)
  obtain ⟨c0, c1, rfl, p0, p1⟩ := hM
  exact ⟨c0, c1, rfl, p0, shape_put p1 hg (fun _ => rfl)⟩
theorem at_seg (h : shSeg.R 38 W base ok (.slice B L.length r) L) (i : Int) (h0 : 0 ≤ i) (h1 : i < L.length) (m : Nat) (hm : (L.getD i.toNat (false, 0)).2 = m) : ∃ ad A c, B = some ad ∧ W.cell? ⟨(ad.add (i.toNat * 2)).block, (ad.add (i.toNat * 2)).off + 1, none⟩ = some (.slice A m c) ∧ m ≤ 9223372036854775807 ∧ Ints base W .i64 3 A m := by
  obtain ⟨g, cs, hA, _, _, _, ⟨c0, c1, rfl, p0, p1⟩, hc⟩ := R_get h (false, 0) i h0 h1
  rw [hm] at p1
  obtain ⟨A, c, rfl, _, hmx, hi, ho⟩ := p1
  have p0' : c0 = [.bool (L.getD i.toNat (false, 0)).1] := p0
  subst p0'
  refine ⟨⟨g, 0, none⟩, A, c, hA, ?_, hmx, hi⟩
  have hc' : ∀ j u, ([.bool (L.getD i.toNat (false, 0)).1, .slice A m c] : List Value)[j]? = some u → W.cell? ((⟨g, 0, none⟩ : Addr).add (i.toNat * 2 + j)) = some u := hc
  rw [← add_field _ _ 1 (by omega)]
  exact hc' 1 _ rfl
end
set_option maxHeartbeats 4000000 in
set_option maxRecDepth 100000 in
theorem law_not_small (k : Nat) (A1 : Option Addr) (c1 : Nat) (l1 : List S38) (a : Int) (w : World) (hr0 : Kd.C k38 w A1 l1.length l1) (hc0 : l1.length ≤ c1) (hs : interregnumlaw06_small.f k l1 = some false) (ha : interregnumlaw06_answers.f k = some true) :
    Calls Try.prog 11 #[.slice A1 l1.length c1, .int .i64 a] w fun e w' => e = .returned (.bool true) ∧ Below w.heap.size w w' := by
  have HR1 := Aside0.mk hr0
  have HC := Aside0.mk hc0
  have HS := Aside0.mk hs
  have hu38 := Try.underlying38
  have HB := Aside0.mk (Below.refl w.heap.size w)
  clear hr0 hc0 hs
  have HA := Aside0.mk ha
  clear ha
  go_enter Try.func11, Try.ntmps11
  go_wp2_with (first | (go_at_call 12; with_reducible refine (interregnumlaw06_small.calls k A1 c1 l1 false _ HR1.out HC.out HS.out).mono ?_; rintro e w3 ⟨rfl, hd⟩; have HB1 := Aside0.mk hd.below; clear hd) | (go_at_call 13; with_reducible refine (interregnumlaw06_answers.calls k true _ HA.out).mono ?_; rintro e w4 ⟨rfl, hb⟩; have HB4 := Aside0.mk (below_step HB1.out hb); clear hb))
  go_ret
  exact ⟨rfl, by first | exact HB4.out | exact pw_below_drewN HB4.out _⟩
set_option maxHeartbeats 4000000 in
set_option maxRecDepth 100000 in
theorem law_small (k : Nat) (A1 : Option Addr) (c1 : Nat) (l1 : List S38) (a : Int) (L : Int) (w : World) (hr0 : Kd.C k38 w A1 l1.length l1) (hc0 : l1.length ≤ c1) (hs : interregnumlaw06_small.f k l1 = some true) (ha : interregnumlaw06_answers.f k = some true) (h4 : l1.length < 4000) (hd : ∀ y ∈ l1, slices_Clone_int_int.f y.f1 = some y.f1) (h5 : ∀ y ∈ l1, y.f1.length < 4000) (hs1 : interregnumref05_SamePath.f k l1 l1 = some true) (hpp : interregnumref05_Prepend.f k l1 a = some (prependV l1 a)) (hs2 : interregnumref05_SamePath.f k (prependV l1 a) (prependV l1 a) = some true) (hlen : path_Length.f k l1 = some L) (hlen2 : path_Length.f k (prependV l1 a) = some (wrap64 (L + 1))) :
    Calls Try.prog 11 #[.slice A1 l1.length c1, .int .i64 a] w fun e w' => e = .returned (.bool true) ∧ Below w.heap.size w w' := by
  have HR1 := Aside0.mk hr0
  have HC := Aside0.mk hc0
  have HS := Aside0.mk hs
  have hu38 := Try.underlying38
  have HB := Aside0.mk (Below.refl w.heap.size w)
  clear hr0 hc0 hs
  have HA := Aside0.mk ha
  have H4 := Aside0.mk h4
  have HD := Aside0.mk hd
  have H5 := Aside0.mk h5
  have HS1 := Aside0.mk hs1
  have HPP := Aside0.mk hpp
  have HS2 := Aside0.mk hs2
  have HL1 := Aside0.mk hlen
  have HL2 := Aside0.mk hlen2
  clear ha h4 hd h5 hs1 hpp hs2 hlen hlen2
  go_enter Try.func11, Try.ntmps11
  go_wp2_with (first | (go_at_call 12; with_reducible refine (interregnumlaw06_small.calls k A1 c1 l1 true _ HR1.out HC.out HS.out).mono ?_; rintro e w3 ⟨rfl, hd⟩; have HB1 := Aside0.mk hd.below; clear hd))
  go_loopg [5, 6] (l1.length + 1) (fun kq v5 v6 w' => ∃ x : Nat, v6 = .int .i64 (x : Int) ∧ Aside0 (x + kq = l1.length + 1 ∧ x ≤ l1.length) ∧ Aside0 (Kd.R k38 38 w' w.heap.size (fun k => w.heap.size ≤ k) v5 (l1.take x)) ∧ Aside0 (Below w.heap.size w w'))
  case atStart => exact ⟨0, rfl, ⟨by omega, by omega⟩, ⟨Kd.R_nil _ _ _ _ _⟩, by first | exact HB1 | exact ⟨pw_below_drewN HB1.out _⟩⟩
  case round =>
    obtain ⟨x, rfl, HM, HN, HBL⟩ := hrel
    obtain ⟨k1, rfl⟩ : ∃ k1, gk = k1 + 1 := ⟨gk - 1, by have := HM.out; omega⟩
    by_cases hlt : x < l1.length
    · have q0 : 0 ≤ ((x : Nat) : Int) := by omega
      have q1 : ((x : Nat) : Int) < (l1.length : Int) := by omega
      have c4b0 : decide (((x : Nat) : Int) < (l1.length : Int)) = true := decide_eq_true q1
      have c4b1 : decide (x < l1.length) = true := decide_eq_true hlt
      obtain ⟨ad, AD, cD, e, hx0, hx1, lD, gD⟩ := at_T38 HR1.out ((x : Nat) : Int) q0 q1
      cases e
      simp only [Int.toNat_natCast] at hx0 hx1
      have hR : rd_T38 l1 ((x : Nat) : Int) = l1[x] := by
        unfold rd_T38
        rw [List.getD_eq_getElem?_getD, Int.toNat_natCast, List.getElem?_eq_getElem hlt]
        rfl
      have HTK := Aside0.mk (show l1.take (x + 1) = l1.take x ++ [l1[x]] from List.take_succ_eq_append_getElem hlt)
      have HR5 := Aside0.mk (H5.out l1[x] (List.getElem_mem hlt))
      have HQ := Aside0.mk hlt
      rw [hR] at hx0 hx1 lD gD
      have HGX := Aside0.mk gD
      clear hR lD gD
      generalize l1[x] = R6 at hx0 hx1 HTK HR5 HGX
      have HX0 := Aside0.mk hx0
      have HX1 := Aside0.mk hx1
      clear hlt
      replace q0 := eq_true q0
      replace q1 := eq_true q1
      replace hx0 := (HBL.out.cell (World.block_lt_of_cell? w _ hx0)).trans hx0
      replace hx1 := (HBL.out.cell (World.block_lt_of_cell? w _ hx1)).trans hx1
      go_upto_region 7 with (fail)
      refine start_ (n := 24) (S := fun w' => w'.cell? (ad.add (x * 2)) = some (.bool R6.f0) ∧ w'.cell? ⟨(ad.add (x * 2)).block, (ad.add (x * 2)).off + 1, none⟩ = some (.slice AD R6.f1.length cD)) (ds := [22]) #[false, false, false, false, false, false, false, false, false, false, false, false, false, false, false, false, false, false, false, false, false, false, false, false] (by kernel_rfl) rfl rfl ⟨hx0, hx1⟩ (fun hHeld => ?_)
      have HBD := Aside0.mk (below_drew1 HBL.out)
      have HND := Aside0.mk (R_drewP HN.out)
      have HGD := Aside0.mk HGX.out
      generalize wr.drew = wD at HBD HND hHeld ⊢
      refine pure_ (i := 0) (N := some 20) (v := ?_) (a' := ?_) #[true, false, false, false, false, false, false, false, false, false, false, false, false, false, false, false, false, false, false, false, false, false, false, false] rfl rfl (by kernel_rfl) (fun _ _ _ h => h) (Or.inl ⟨by rfl, ?_⟩) ?_ ?_
      rotate_left
      · intro w'
        go_simp
        with_reducible rfl
      rotate_left
      · simp only [Act.put, List.setIfInBounds_toArray, List.set_cons_zero, List.set_cons_succ, i64_w, i32_w]
        rfl
      refine pure_ (i := 1) (N := some 21) (v := ?_) (a' := ?_) #[true, true, false, false, false, false, false, false, false, false, false, false, false, false, false, false, false, false, false, false, false, false, false, false] rfl rfl (by kernel_rfl) (fun _ _ _ h => h) (Or.inl ⟨by rfl, ?_⟩) ?_ ?_
      rotate_left
      · intro w'
        go_simp
        with_reducible rfl
      rotate_left
      · simp only [Act.put, List.setIfInBounds_toArray, List.set_cons_zero, List.set_cons_succ, i64_w, i32_w]
        rfl
      refine pure_ (i := 2) (N := some 22) (v := ?_) (a' := ?_) #[true, true, true, false, false, false, false, false, false, false, false, false, false, false, false, false, false, false, false, false, false, false, false, false] rfl rfl (by kernel_rfl) (fun _ _ _ h => h) (Or.inl ⟨by rfl, ?_⟩) ?_ ?_
      rotate_left
      · intro w'
        go_simp
        with_reducible rfl
      rotate_left
      · simp only [Act.put, List.setIfInBounds_toArray, List.set_cons_zero, List.set_cons_succ, i64_w, i32_w]
        rfl
      refine pure_ (i := 3) (N := some 23) (v := ?_) (a' := ?_) #[true, true, true, true, false, false, false, false, false, false, false, false, false, false, false, false, false, false, false, false, false, false, false, false] rfl rfl (by kernel_rfl) (fun _ _ _ h => h) (Or.inl ⟨by rfl, ?_⟩) ?_ ?_
      rotate_left
      · intro w'
        go_simp
        with_reducible rfl
      rotate_left
      · simp only [Act.put, List.setIfInBounds_toArray, List.set_cons_zero, List.set_cons_succ, i64_w, i32_w]
        rfl
      refine pure_ (i := 4) (N := some 24) (v := ?_) (a' := ?_) #[true, true, true, true, true, false, false, false, false, false, false, false, false, false, false, false, false, false, false, false, false, false, false, false] rfl rfl (by kernel_rfl) (fun _ _ _ h => h) (Or.inl ⟨by rfl, ?_⟩) ?_ ?_
      rotate_left
      · intro w'
        go_simp
        with_reducible rfl
      rotate_left
      · simp only [Act.put, List.setIfInBounds_toArray, List.set_cons_zero, List.set_cons_succ, i64_w, i32_w]
        rfl
      refine pure_ (i := 6) (N := some 26) (v := ?_) (a' := ?_) #[true, true, true, true, true, false, true, false, false, false, false, false, false, false, false, false, false, false, false, false, false, false, false, false] rfl rfl (by kernel_rfl) (fun _ _ _ h => h) (Or.inl ⟨by rfl, ?_⟩) ?_ ?_
      rotate_left
      · intro w'
        go_simp
        with_reducible rfl
      rotate_left
      · simp only [Act.put, List.setIfInBounds_toArray, List.set_cons_zero, List.set_cons_succ, i64_w, i32_w]
        rfl
      refine pure_ (i := 7) (N := some 27) (v := ?_) (a' := ?_) #[true, true, true, true, true, false, true, true, false, false, false, false, false, false, false, false, false, false, false, false, false, false, false, false] rfl rfl (by kernel_rfl) (fun _ _ _ h => h) (Or.inl ⟨by rfl, ?_⟩) ?_ ?_
      rotate_left
      · intro w'
        go_simp
        with_reducible rfl
      rotate_left
      · simp only [Act.put, List.setIfInBounds_toArray, List.set_cons_zero, List.set_cons_succ, i64_w, i32_w]
        rfl
      refine pure_ (i := 8) (N := some 28) (v := ?_) (a' := ?_) #[true, true, true, true, true, false, true, true, true, false, false, false, false, false, false, false, false, false, false, false, false, false, false, false] rfl rfl (by kernel_rfl) (fun _ _ _ h => h) (Or.inl ⟨by rfl, ?_⟩) ?_ ?_
      rotate_left
      · intro w'
        go_simp
        with_reducible rfl
      rotate_left
      · simp only [Act.put, List.setIfInBounds_toArray, List.set_cons_zero, List.set_cons_succ, i64_w, i32_w]
        rfl
      refine pure_ (i := 9) (N := some 29) (v := ?_) (a' := ?_) #[true, true, true, true, true, false, true, true, true, true, false, false, false, false, false, false, false, false, false, false, false, false, false, false] rfl rfl (by kernel_rfl) (fun _ _ _ h => h) (Or.inl ⟨by rfl, ?_⟩) ?_ ?_
      rotate_left
      · intro w'
        go_simp
        with_reducible rfl
      rotate_left
      · simp only [Act.put, List.setIfInBounds_toArray, List.set_cons_zero, List.set_cons_succ, i64_w, i32_w]
        rfl
      refine pure_ (i := 14) (N := some 34) (v := ?_) (a' := ?_) #[true, true, true, true, true, false, true, true, true, true, false, false, false, false, true, false, false, false, false, false, false, false, false, false] rfl rfl (by kernel_rfl) (fun _ _ _ h => h) (Or.inl ⟨by rfl, ?_⟩) ?_ ?_
      rotate_left
      · intro w'
        go_simp
        with_reducible rfl
      rotate_left
      · simp only [Act.put, List.setIfInBounds_toArray, List.set_cons_zero, List.set_cons_succ, i64_w, i32_w]
        rfl
      refine pure_ (i := 15) (N := some 35) (v := ?_) (a' := ?_) #[true, true, true, true, true, false, true, true, true, true, false, false, false, false, true, true, false, false, false, false, false, false, false, false] rfl rfl (by kernel_rfl) (fun _ _ _ h => h) (Or.inl ⟨by rfl, ?_⟩) ?_ ?_
      rotate_left
      · intro w'
        go_simp
        with_reducible rfl
      rotate_left
      · simp only [Act.put, List.setIfInBounds_toArray, List.set_cons_zero, List.set_cons_succ, i64_w, i32_w]
        rfl
      refine pure_ (i := 16) (N := some 36) (v := ?_) (a' := ?_) #[true, true, true, true, true, false, true, true, true, true, false, false, false, false, true, true, true, false, false, false, false, false, false, false] rfl rfl (by kernel_rfl) (fun _ _ _ h => h) (Or.inl ⟨by rfl, ?_⟩) ?_ ?_
      rotate_left
      · intro w'
        go_simp
        with_reducible rfl
      rotate_left
      · simp only [Act.put, List.setIfInBounds_toArray, List.set_cons_zero, List.set_cons_succ, i64_w, i32_w]
        rfl
      refine pure_ (i := 17) (N := some 37) (v := ?_) (a' := ?_) #[true, true, true, true, true, false, true, true, true, true, false, false, false, false, true, true, true, true, false, false, false, false, false, false] rfl rfl (by kernel_rfl) (fun _ _ _ h => h) (Or.inl ⟨by rfl, ?_⟩) ?_ ?_
      rotate_left
      · intro w'
        go_simp
        with_reducible rfl
      rotate_left
      · simp only [Act.put, List.setIfInBounds_toArray, List.set_cons_zero, List.set_cons_succ, i64_w, i32_w]
        rfl
      refine take_ (i := 5) (N := some 25) (v := ?_) (a' := ?_) #[true, true, true, true, true, true, true, true, true, true, false, false, false, false, true, true, true, true, false, false, false, false, false, false] rfl rfl (by kernel_rfl) (fun _ _ _ h => h) (Or.inl ⟨by rfl, ?_⟩) hHeld ?_ ?_
      rotate_left
      · rintro w' ⟨s0, s1⟩
        go_simp
        with_reducible rfl
      rotate_left
      · simp only [Act.put, List.setIfInBounds_toArray, List.set_cons_zero, List.set_cons_succ, i64_w, i32_w]
        rfl
      refine take_ (i := 10) (N := some 30) (v := ?_) (a' := ?_) #[true, true, true, true, true, true, true, true, true, true, true, false, false, false, true, true, true, true, false, false, false, false, false, false] rfl rfl (by kernel_rfl) (fun _ _ _ h => h) (Or.inl ⟨by rfl, ?_⟩) hHeld ?_ ?_
      rotate_left
      · rintro w' ⟨s0, s1⟩
        go_simp
        with_reducible rfl
      rotate_left
      · simp only [Act.put, List.setIfInBounds_toArray, List.set_cons_zero, List.set_cons_succ, i64_w, i32_w]
        rfl
      refine pure_ (i := 11) (N := some 31) (v := ?_) (a' := ?_) #[true, true, true, true, true, true, true, true, true, true, true, true, false, false, true, true, true, true, false, false, false, false, false, false] rfl rfl (by kernel_rfl) (fun _ _ _ h => h) (Or.inl ⟨by rfl, ?_⟩) ?_ ?_
      rotate_left
      · intro w'
        go_simp
        with_reducible rfl
      rotate_left
      · simp only [Act.put, List.setIfInBounds_toArray, List.set_cons_zero, List.set_cons_succ, i64_w, i32_w]
        rfl
      refine pure_ (i := 12) (N := some 32) (v := ?_) (a' := ?_) #[true, true, true, true, true, true, true, true, true, true, true, true, true, false, true, true, true, true, false, false, false, false, false, false] rfl rfl (by kernel_rfl) (fun _ _ _ h => h) (Or.inl ⟨by rfl, ?_⟩) ?_ ?_
      rotate_left
      · intro w'
        go_simp
        with_reducible rfl
      rotate_left
      · simp only [Act.put, List.setIfInBounds_toArray, List.set_cons_zero, List.set_cons_succ, i64_w, i32_w]
        rfl
      refine take_ (i := 18) (N := some 38) (v := ?_) (a' := ?_) #[true, true, true, true, true, true, true, true, true, true, true, true, true, false, true, true, true, true, true, false, false, false, false, false] rfl rfl (by kernel_rfl) (fun _ _ _ h => h) (Or.inl ⟨by rfl, ?_⟩) hHeld ?_ ?_
      rotate_left
      · rintro w' ⟨s0, s1⟩
        go_simp
        with_reducible rfl
      rotate_left
      · simp only [Act.put, List.setIfInBounds_toArray, List.set_cons_zero, List.set_cons_succ, i64_w, i32_w]
        rfl
      refine one_ (i := 13) (N := some 33) #[true, true, true, true, true, true, true, true, true, true, true, true, true, true, true, true, true, true, true, false, false, false, false, false] rfl rfl (by kernel_rfl) (by decide) (fun K hK => ?_)
      refine make_room_int (by rfl) rfl 36 3 (.const (.int .i64 0)) (.tmp 32) rfl _ (R6.f1.length + 3) rfl rfl (by have := HR5.out; (try simp only [i64_w]); (try unfold wrap64); omega) Try.underlying36 (show (Try.prog.info? 3).map (fun i => (i.zero, i.size, i.bytes)) = some (some (.int .i64 0), 1, 8) from by kernel_rfl) (by have := HR5.out; omega) ?_
      intro w8 ho hb
      have HOA := Aside0.mk (Kd.R_elder' HND.out (Kd.R_base ho) hb)
      have HRO := Aside0.mk (Kd.R_mono (ok' := (fun k => w.heap.size ≤ k)) (Kd.R_lower (Kd.R_bound ho) HBD.out.size) (fun k hk => Nat.le_trans HBD.out.size hk.2.1))
      have HGR := Aside0.mk (Kd.R_base ho)
      have HB8 := Aside0.mk (below_step HBD.out hb)
      have HG8 := Aside0.mk (Kd.C_below HGD.out HB8.out)
      clear ho hb HND HBD
      refine hK.out _ _ ⟨(HB8.out.cell (World.block_lt_of_cell? w _ HX0.out)).trans HX0.out, (HB8.out.cell (World.block_lt_of_cell? w _ HX1.out)).trans HX1.out⟩ (fun hHeld => ?_)
      clear hK K
      refine norm_ (a' := ?_) ?_ ?_
      rotate_left
      · show Act.put _ (some 33) _ = _
        simp only [Act.put, List.setIfInBounds_toArray, List.set_cons_zero, List.set_cons_succ, i64_w, i32_w]
        rfl
      refine one_ (i := 19) (N := some 39) #[true, true, true, true, true, true, true, true, true, true, true, true, true, true, true, true, true, true, true, true, false, false, false, false] rfl rfl (by kernel_rfl) (by decide) (fun K hK => ?_)
      refine Kd.R_append_rows_step (Kd.int .i64) (w0 := w) w.heap.size (by rfl) (.tmp 33) (.tmp 38) 36 3 (.int .i64 0) 8 rfl Try.underlying36 (show (Try.prog.info? 3).map (fun i => (i.zero, i.size, i.bytes)) = some (some (.int .i64 0), 1, 8) from by kernel_rfl) rfl (by decide) (by omega) _ [] R6.f1 AD R6.f1.length cD (fun k => w.heap.size ≤ k) (fun _ => False) rfl rfl HRO.out HG8.out (fun _ _ h => h) (fun _ h => h.elim) (fun _ hk => Nat.le_trans HB8.out.size hk) HB8.out HB8.out.size (by have := HR5.out; simp only [List.length_nil]; omega) ?_
      intro v9 w9 ho hb hg hat
      have HND := Aside0.mk (Kd.R_mono (ok' := fun k => w.heap.size ≤ k ∧ some k ≠ v9.ownBlock) (Kd.R_after HOA.out hg hat) (fun k hk => hk))
      have HMD := Aside0.mk (show Kd.R (Kd.int .i64) 3 w9 w.heap.size (fun k => w.heap.size ≤ k) v9 R6.f1 from ho)
      have HNE := Aside0.mk (show ∀ k : Nat, some k = v9.ownBlock → some k = u5.ownBlock → False from fun k hk e => by obtain ⟨inner, hown⟩ := Kd.R_own HND.out; obtain ⟨cells, hc⟩ := own_typed hown k e.symm; exact absurd hk (Kd.R_ne ho hc (by decide)))
      have HB9 := Aside0.mk hb
      clear ho hb hg hat HOA HRO HG8 HB8
      obtain ⟨B9, d9, e9⟩ := Kd.R_slice HMD.out
      subst e9
      refine hK.out _ _ ⟨(HB9.out.cell (World.block_lt_of_cell? w _ HX0.out)).trans HX0.out, (HB9.out.cell (World.block_lt_of_cell? w _ HX1.out)).trans HX1.out⟩ (fun hHeld => ?_)
      clear hK K
      refine norm_ (a' := ?_) ?_ ?_
      rotate_left
      · show Act.put _ (some 39) _ = _
        simp only [Act.put, List.setIfInBounds_toArray, List.set_cons_zero, List.set_cons_succ, i64_w, i32_w]
        rfl
      refine pure_ (i := 20) (N := some 40) (v := ?_) (a' := ?_) #[true, true, true, true, true, true, true, true, true, true, true, true, true, true, true, true, true, true, true, true, true, false, false, false] rfl rfl (by kernel_rfl) (fun _ _ _ h => h) (Or.inl ⟨by rfl, ?_⟩) ?_ ?_
      rotate_left
      · intro w'
        go_simp
        with_reducible rfl
      rotate_left
      · simp only [Act.put, List.setIfInBounds_toArray, List.set_cons_zero, List.set_cons_succ, i64_w, i32_w]
        rfl
      refine one_ (i := 21) (N := some 41) #[true, true, true, true, true, true, true, true, true, true, true, true, true, true, true, true, true, true, true, true, true, true, false, false] rfl rfl (by kernel_rfl) (by decide) (fun K hK => ?_)
      refine value_ (w1 := ?_) (v := ?_) (by rfl) rfl ?_ ?_
      rotate_left 2
      · go_simp
        constructor
        · rfl
        · rfl
      refine hK.out _ _ ⟨((below_alloc HB9.out _).cell (World.block_lt_of_cell? w _ HX0.out)).trans HX0.out, ((below_alloc HB9.out _).cell (World.block_lt_of_cell? w _ HX1.out)).trans HX1.out⟩ (fun hHeld => ?_)
      clear hK K
      refine norm_ (a' := ?_) ?_ ?_
      rotate_left
      · show Act.put _ (some 41) _ = _
        simp only [Act.put, List.setIfInBounds_toArray, List.set_cons_zero, List.set_cons_succ, i64_w, i32_w]
        rfl
      refine last_ (i := 22) (N := some 42) #[true, true, true, true, true, true, true, true, true, true, true, true, true, true, true, true, true, true, true, true, true, true, true, false] rfl rfl (by kernel_rfl) (by decide) (fun K hK => ?_)
      refine Kd.R_append_step k38 (w0 := w) w.heap.size (by rfl) (.tmp 20) (.tmp 41) 22 38 (.agg #[.bool false, .slice none 0 0]) 32 rfl Try.underlying22 infoSeg rfl (by decide) (by omega) u5 (l1.take x) R6 [.bool R6.f0, .slice B9 R6.f1.length d9] (fun k => w.heap.size ≤ k) (fun k => w.heap.size ≤ k ∧ some k ≠ u5.ownBlock) rfl rfl ?aP (fun _ hk => hk) (fun _ hk => Nat.le_trans HB9.out.size hk) ?aO ?aB ?aS ?aL ?_
      (case aP => exact k38_mkM _ _ _ R6 (Kd.R_mono (Kd.R_tight2 rfl HMD.out) (fun k hk => ⟨hk.2, fun e => HNE.out k hk.1 e⟩)))
      (case aO => exact Kd.R_mono HND.out (fun _ hk => hk.1))
      (case aB => exact HB9.out)
      (case aS => exact HB9.out.size)
      (case aL => have := H4.out; have := List.length_take_le x l1; have := HQ.out; omega)
      intro v10 w10 ho9 hb9 hg9 hat9
      have HN9 := Aside0.mk ho9
      have HB10 := Aside0.mk hb9
      clear ho9 hb9 hg9 hat9
      refine hK.out _ _ ?_
      clear hK K
      refine norm_ (a' := ?_) ?_ ?_
      rotate_left
      · show Act.put _ (some 42) _ = _
        simp only [Act.put, List.setIfInBounds_toArray, List.set_cons_zero, List.set_cons_succ, i64_w, i32_w]
        rfl
      refine pure_ (i := 23) (N := some 5) (v := ?_) (a' := ?_) #[true, true, true, true, true, true, true, true, true, true, true, true, true, true, true, true, true, true, true, true, true, true, true, true] rfl rfl (by kernel_rfl) (fun _ _ _ h => h) (Or.inl ⟨by rfl, ?_⟩) ?_ ?_
      rotate_left
      · intro w'
        go_simp
        with_reducible rfl
      rotate_left
      · simp only [Act.put, List.setIfInBounds_toArray, List.set_cons_zero, List.set_cons_succ, i64_w, i32_w]
        rfl
      refine done_ (by kernel_rfl) ?_
      go_wp2
      go_roundg k1
      case measure => omega
      case rel =>
        refine ⟨x + 1, ?ii, ⟨by have := HM.out; omega, by have := HQ.out; omega⟩, ⟨by rw [HTK.out]; exact HN9.out⟩, HB10⟩
        case ii =>
          have hw : wrap64 ((x : Nat) + 1 : Int) = ((x + 1 : Nat) : Int) := by
            have := HQ.out
            have := H4.out
            unfold wrap64
            omega
          first | rfl | (simp [hw]; done) | (rw [hw])
    · have c4b0 : decide (((x : Nat) : Int) < (l1.length : Int)) = false := decide_eq_false (by omega)
      have HN2 := Aside0.mk (show Kd.R k38 38 wr w.heap.size (fun k => w.heap.size ≤ k) u5 l1 from by
        have hN := HN.out
        rw [List.take_of_length_le (by omega)] at hN
        exact hN)
      obtain ⟨BI, dI, eI⟩ := Kd.R_slice HN2.out
      subst eI
      have HLI := Aside0.mk (Kd.R_reads' HN2.out).2.1
      have HIC := Aside0.mk (Kd.R_reads' HN2.out).2.2
      clear HN HN2
      obtain ⟨w5, hw5⟩ : ∃ w5, w5 = wr := ⟨_, rfl⟩
      subst hw5
      have HB5 := HBL
      clear HBL
      obtain ⟨lp, hlp⟩ : ∃ lp, prependV l1 a = lp := ⟨_, rfl⟩
      have HLP := Aside0.mk hlp
      have HLQ := Aside0.mk (show lp.length < 5000 from by have := prependV_len l1 a; have := H4.out; rw [hlp] at *; omega)
      have HPP2 := HPP.out
      have HS22 := HS2.out
      have HL22 := HL2.out
      rw [hlp] at HPP2 HS22 HL22
      clear HPP HS2 HL2
      have HPP := Aside0.mk HPP2
      have HS2 := Aside0.mk HS22
      have HL2 := Aside0.mk HL22
      clear HPP2 HS22 HL22 hlp
      go_wp2_with (first | (go_at_call 39; with_reducible refine (path_prepend BI dI l1 a _ HIC.out HLI.out H4.out HD.out H5.out).mono ?_; rintro e w6 ⟨Q, n, q, q', rfl, hn, hq, hR, hb⟩; rw [HLP.out] at hn hR; subst hn; have HQQ := Aside0.mk hq; have HQR := Aside0.mk hR; have HW6 := Aside0.mk hb; have HB6 := Aside0.mk (below_step HB5.out hb); clear hq hR hb) | (go_at_call 20; with_reducible refine (interregnumref05_SamePath.calls k BI dI l1 A1 c1 l1 true _ (Kd.C_below HIC.out HW6.out) HLI.out (Kd.C_below HR1.out HB6.out) HC.out HS1.out).mono ?_; rintro e w7 ⟨rfl, hd⟩; have hb := hd.below; have HW7 := Aside0.mk (below_step HW6.out hb); have HB7 := Aside0.mk (below_step HB6.out hb); have HQ7 := Aside0.mk (Kd.R_below HQR.out hb); clear hd hb) | (go_at_call 40; refine (interregnumref05_Prepend.calls k _ A1 c1 l1 a lp _ (seg_V HC.out (Kd.C_below HR1.out HB7.out)) HPP.out).mono ?_; rintro e w8 ⟨v8, rfl, hv, hb⟩; obtain ⟨X, dx, ex⟩ := Kd.N_slice hv; subst ex; have HX1 := Aside0.mk (Kd.N_reads' hv).2.1; have HX2 := Aside0.mk (Kd.N_reads' hv).2.2; have HW8 := Aside0.mk (below_step HW7.out hb); have HQ8 := Aside0.mk (Kd.R_below HQ7.out hb); have HQC := Aside0.mk (kc_C (Kd.R_reads' HQ8.out).2.2); clear hv hb) | (go_at_call 20; with_reducible refine (interregnumref05_SamePath.calls k Q q lp X dx lp true _ HQC.out HQQ.out HX2.out HX1.out HS2.out).mono ?_; rintro e w9 ⟨rfl, hd⟩; have hb := hd.below; have HW9 := Aside0.mk (below_step HW8.out hb); have HQ9 := Aside0.mk (Kd.R_below HQ8.out hb); clear hd hb))
      have HAF := Aside0.mk (segs_of HQ9.out)
      clear HQ9 HQ8 HQ7 HQR HQC HX1 HX2 HW6 HW7 HW8 HB6 HB7 HS2 HPP
      go_loopg [8] (lp.length + 1) (fun kq v8 wr => ∃ x : Int, v8 = .int .i64 x ∧ Aside0 (0 ≤ x ∧ x + kq = lp.length + 1) ∧ Aside0 (shSeg.R 38 wr w5.heap.size (fun k => w5.heap.size ≤ k) (.slice Q (segSh lp).length q') (segSh lp)) ∧ Aside0 (Below w5.heap.size w5 wr))
      case atStart => exact ⟨0, rfl, ⟨by simp⟩, HAF, HW9⟩
      case round =>
        clear HAF HW9
        obtain ⟨x, rfl, HF, HA1, HA2⟩ := hrel
        by_cases hlt : x < (lp.length : Int)
        · have HL := Aside0.mk hlt
          obtain ⟨k1, rfl⟩ : ∃ k1, gk = k1 + 1 := ⟨gk - 1, by have := HF.out.2; omega⟩
          have c0b0 : decide (x < (lp.length : Int)) = true := decide_eq_true hlt
          obtain ⟨m, hm⟩ : ∃ m, ((segSh lp).getD x.toNat (false, 0)).2 = m := ⟨_, rfl⟩
          have HM := Aside0.mk hm
          clear hlt hm
          go_wp2
          go_loopg [9] (m + 1) (fun kq v9 wr => ∃ y : Int, v9 = .int .i64 y ∧ Aside0 (0 ≤ y ∧ y + kq = m + 1) ∧ Aside0 (shSeg.R 38 wr w5.heap.size (fun k => w5.heap.size ≤ k) (.slice Q (segSh lp).length q') (segSh lp)) ∧ Aside0 (Below w5.heap.size w5 wr))
          case atStart => exact ⟨0, rfl, ⟨by simp⟩, HA1, HA2⟩
          case round =>
            clear HA1 HA2
            obtain ⟨y, rfl, HG, HA1, HA2⟩ := hrel
            obtain ⟨ad, A, c, hB, hx1, hmx, hI⟩ := at_seg HA1.out x HF.out.1 (by rw [segSh_len]; exact HL.out) m HM.out
            subst hB
            have HMX := Aside0.mk hmx
            have HI := Aside0.mk hI
            have p0 := eq_true HF.out.1
            have p1 := eq_true HL.out
            clear hmx hI
            by_cases hlt : y < (m : Int)
            · have HLY := Aside0.mk hlt
              obtain ⟨k2, rfl⟩ : ∃ k2, gk = k2 + 1 := ⟨gk - 1, by have := HG.out.2; omega⟩
              have c1b0 : decide (y < (m : Int)) = true := decide_eq_true hlt
              obtain ⟨g, cells, hA, hge, hg, ⟨v, hv⟩, hfz⟩ := Ints.at_ HI.out (k := y.toNat) (by have := HG.out.1; omega)
              subst hA
              have HGE := Aside0.mk hge
              have HGB := Aside0.mk hg
              have p2 := eq_true HG.out.1
              have p3 := eq_true hlt
              clear hlt hge hg
              go_wp2
              go_roundg k2
              case measure => omega
              case rel => exact ⟨y + 1, (by have hw : wrap64 (y + 1) = y + 1 := (by have := HLY.out; have := HG.out.1; have := HMX.out; unfold wrap64; omega); first | rfl | (simp [hw]; done)), ⟨by have := HG.out.1; omega, by have := HG.out.2; omega⟩, ⟨segs_put HA1.out HGB.out⟩, ⟨Below.setCell HA2.out (by exact HGE.out) _⟩⟩
            · have c1b0 : decide (y < (m : Int)) = false := decide_eq_false hlt
              clear hlt
              go_wp2
              go_roundg k1
              case measure => omega
              case rel => exact ⟨x + 1, (by have hw : wrap64 (x + 1) = x + 1 := (by have := HL.out; have := HF.out.1; have := HLQ.out; unfold wrap64; omega); first | rfl | (simp [hw]; done)), ⟨by have := HF.out.1; omega, by have := HF.out.2; omega⟩, HA1, HA2⟩
        · have c0b0 : decide (x < (lp.length : Int)) = false := decide_eq_false hlt
          clear hlt HF
          have HWL := HA2
          have HBZ := Aside0.mk (below_step HB5.out HWL.out)
          go_wp2_with (first | (go_at_call 13; with_reducible refine (interregnumlaw06_answers.calls k true _ HA.out).mono ?_; rintro e w20 ⟨rfl, hb⟩; have HWA := Aside0.mk (below_step HWL.out hb); have HBA := Aside0.mk (below_step HBZ.out hb); clear hb) | (go_at_call 20; with_reducible refine (interregnumref05_SamePath.calls k BI dI l1 A1 c1 l1 true _ (Kd.C_below HIC.out HWA.out) HLI.out (Kd.C_below HR1.out HBA.out) HC.out HS1.out).mono ?_; rintro e w21 ⟨rfl, hd⟩; have hb := hd.below; have HBB := Aside0.mk (below_step HBA.out hb); clear hd hb) | (go_at_call 39; with_reducible refine (path_prepend A1 c1 l1 a _ (Kd.C_below HR1.out HBB.out) HC.out H4.out HD.out H5.out).mono ?_; rintro e w22 ⟨Q2, n, q2, q2', rfl, hn, hq, hR, hb⟩; rw [HLP.out] at hn hR; subst hn; have HQQ2 := Aside0.mk hq; have HC2 := Aside0.mk (kc_C (Kd.R_reads' hR).2.2); have HBC := Aside0.mk (below_step HBB.out hb); clear hq hR hb) | (go_at_call 24; with_reducible refine (path_Length.calls k Q2 q2 lp (wrap64 (L + 1)) _ HC2.out HQQ2.out HL2.out).mono ?_; rintro e w23 ⟨rfl, hb⟩; have HBD := Aside0.mk (below_step HBC.out hb); clear hb) | (go_at_call 24; with_reducible refine (path_Length.calls k A1 c1 l1 L _ (Kd.C_below HR1.out HBD.out) HC.out HL1.out).mono ?_; rintro e w24 ⟨rfl, hb⟩; have HBE := Aside0.mk (below_step HBD.out hb); clear hb))
          go_ret
          exact ⟨rfl, by first | exact HBE.out | exact pw_below_drewN HBE.out _⟩
instance seg_dec : DecidableEq S38 := fun x y => decidable_of_iff (x.f0 = y.f0 ∧ x.f1 = y.f1) (by cases x; cases y; simp)
def preOk (k : Nat) (l1 : List S38) (a : Int) (L : Int) : Prop :=
  interregnumlaw06_answers.f k = some true ∧ l1.length < 4000 ∧ (∀ y ∈ l1, slices_Clone_int_int.f y.f1 = some y.f1) ∧ (∀ y ∈ l1, y.f1.length < 4000) ∧ interregnumref05_SamePath.f k l1 l1 = some true ∧ interregnumref05_Prepend.f k l1 a = some (prependV l1 a) ∧ interregnumref05_SamePath.f k (prependV l1 a) (prependV l1 a) = some true ∧ path_Length.f k (prependV l1 a) = some (wrap64 (L + 1))
instance preOk_dec (k : Nat) (l1 : List S38) (a : Int) (L : Int) : Decidable (preOk k l1 a L) := by unfold preOk; infer_instance
def interregnumlaw06_PathPrepends.f (k : Nat) (l1 : List S38) (a : Int) : Option Bool :=
  (interregnumlaw06_small.f k l1).bind fun s => if s = true then (path_Length.f k l1).bind fun L => if preOk k l1 a L then some true else none else if interregnumlaw06_answers.f k = some true then some true else none
theorem interregnumlaw06_PathPrepends.calls (k : Nat) (A0 : Option Addr) (c0 : Nat) (l0 : List S38) (a1 : Int) (r : Bool) (w : World) (hr0 : Kd.C k38 w A0 l0.length l0) (hc0 : l0.length ≤ c0) (h : interregnumlaw06_PathPrepends.f k l0 a1 = some r) :
    Calls Try.prog 11 #[.slice A0 l0.length c0, .int .i64 a1] w fun e w' => e = .returned (.bool r) ∧ Below w.heap.size w w' := by
  unfold interregnumlaw06_PathPrepends.f at h
  obtain ⟨s, hs, h⟩ := Option.bind_eq_some_iff.mp h
  by_cases hst : s = true
  · rw [if_pos hst] at h
    subst hst
    obtain ⟨L, hL, h⟩ := Option.bind_eq_some_iff.mp h
    by_cases hok : preOk k l0 a1 L
    · rw [if_pos hok] at h
      obtain rfl := Option.some.inj h
      obtain ⟨p1, p2, p3, p4, p5, p6, p7, p8⟩ := hok
      exact law_small k A0 c0 l0 a1 L w hr0 hc0 hs p1 p2 p3 p4 p5 p6 p7 hL p8
    · rw [if_neg hok] at h
      cases h
  · rw [if_neg hst] at h
    by_cases ha : interregnumlaw06_answers.f k = some true
    · rw [if_pos ha] at h
      obtain rfl := Option.some.inj h
      have hsf : s = false := by cases s with | true => exact absurd rfl hst | false => rfl
      subst hsf
      exact law_not_small k A0 c0 l0 a1 w hr0 hc0 hs ha
    · rw [if_neg ha] at h
      cases h


end Go.Proofs.Ytpkckkmgnlhhcaa.PPathPrepends
