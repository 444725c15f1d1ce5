-- Lean text by a program of this repo (wip/tools/printx.py), out of Lean's own print of the translation
import Derived.Test.YtpkckkmgnlhhcaaOwn
import Derived.Test.YtpkckkmgnlhhcaaInts
import Derived.Test.YtpkckkmgnlhhcaaMid
import Derived.Test.YtpkckkmgnlhhcaaHelp
import Derived.ArgAppend
import Derived.Test.YtpkckkmgnlhhcaaPRouteOwnx0
import Derived.Test.YtpkckkmgnlhhcaaPRouteOwnx2
import Derived.Test.YtpkckkmgnlhhcaaPRouteOwnx3
import Derived.Test.YtpkckkmgnlhhcaaPRouteOwnx4
import Derived.Test.YtpkckkmgnlhhcaaPRouteOwnx7
namespace Go.Proofs.Ytpkckkmgnlhhcaa.PRouteOwn
open Go.RowKit Go.Proofs.YtpkckkmgnlhhcaaW.PrintWords Go.Proofs.YtpkckkmgnlhhcaaW.PrintLast Go.Proofs.YtpkckkmgnlhhcaaW.PrintMore
attribute [local go_sem] max2_int min2_int max_two min_two max_three min_three max_four min_four   -- for this text's walks alone
set_option linter.unusedVariables false
set_option linter.unusedSimpArgs false

/-! ### interregnumlaw13_RouteOwn: function 9 -/
-- FN rounds=1 making=1
-- IMPORT Derived.ArgAppend
-- IMPORT Derived.Test.YtpkckkmgnlhhcaaHelp
-- IMPORT Derived.Test.YtpkckkmgnlhhcaaMid
-- IMPORT Derived.Test.YtpkckkmgnlhhcaaInts
-- IMPORT Derived.Test.YtpkckkmgnlhhcaaOwn
open Go.Proofs.Ytpkckkmgnlhhcaa.Ints
open Go.Proofs.Ytpkckkmgnlhhcaa.Own
open Go.Proofs.Ytpkckkmgnlhhcaa.Help
open Go.Proofs.Ytpkckkmgnlhhcaa.Own in
/-- A segment of a path, of the call's own. -/
def kc38 : Kd S38 := Kd.iso (Kd.pair Kd.bool (cut 3 .i64)) (fun x : S38 => (x.f0, x.f1))
theorem R_drewO {α : Type} {d : Kd α} {e : Nat} {w : World} {base : Nat} {ok : Nat → Prop} {v : Value} {xs : List α} (h : d.R e w base ok v xs) : d.R e w.drew base ok v xs := Kd.R_below h (below_drew (Below.refl _ _))
theorem kc_C {w : World} {A : Option Addr} {n : Nat} {xs : List S38} (h : kc38.C w A n xs) : k38.C w A n xs := h
set_option maxHeartbeats 4000000 in
set_option maxRecDepth 100000 in
theorem infoSeg : (Try.prog.info? 38).map (fun i => (i.zero, i.size, i.bytes)) = some (some (.agg #[.bool false, .slice none 0 0]), 2, 32) := by kernel_rfl
set_option maxHeartbeats 4000000 in
set_option maxRecDepth 100000 in
theorem clip_int (A : Option Addr) (n c : Nat) (w : World) (hn : n ≤ c) :
    Calls Try.prog 69 #[.slice A n c] w fun e w' => e = .returned (.slice A n n) ∧ Below w.heap.size w w' := by
  have HB := Aside0.mk (Below.refl w.heap.size w)
  go_enter Try.func69, Try.ntmps69
  go_wp2
  go_ret
  exact ⟨rfl, by first | exact HB.out | exact pw_below_drewN HB.out _⟩
set_option maxHeartbeats 4000000 in
set_option maxRecDepth 100000 in
theorem clip_seg (A : Option Addr) (n c : Nat) (w : World) (hn : n ≤ c) :
    Calls Try.prog 71 #[.slice A n c] w fun e w' => e = .returned (.slice A n n) ∧ Below w.heap.size w w' := by
  have HB := Aside0.mk (Below.refl w.heap.size w)
  go_enter Try.func71, Try.ntmps71
  go_wp2
  go_ret
  exact ⟨rfl, by first | exact HB.out | exact pw_below_drewN HB.out _⟩
set_option maxHeartbeats 4000000 in
set_option maxRecDepth 100000 in
theorem clip_u32 (A : Option Addr) (n c : Nat) (w : World) (hn : n ≤ c) :
    Calls Try.prog 65 #[.slice A n c] w fun e w' => e = .returned (.slice A n n) ∧ Below w.heap.size w w' := by
  have HB := Aside0.mk (Below.refl w.heap.size w)
  go_enter Try.func65, Try.ntmps65
  go_wp2
  go_ret
  exact ⟨rfl, by first | exact HB.out | exact pw_below_drewN HB.out _⟩
set_option maxHeartbeats 4000000 in
set_option maxRecDepth 100000 in
theorem clip_raw (A : Option Addr) (n c : Nat) (w : World) (hn : n ≤ c) :
    Calls Try.prog 68 #[.slice A n c] w fun e w' => e = .returned (.slice A n n) ∧ Below w.heap.size w w' := by
  have HB := Aside0.mk (Below.refl w.heap.size w)
  go_enter Try.func68, Try.ntmps68
  go_wp2
  go_ret
  exact ⟨rfl, by first | exact HB.out | exact pw_below_drewN HB.out _⟩
set_option maxHeartbeats 4000000 in
set_option maxRecDepth 100000 in
theorem path_own (A1 : Option Addr) (c1 : Nat) (l1 : List S38) (w : World) (hr1 : Kd.C k38 w A1 l1.length l1) (hc1 : l1.length ≤ c1) (h4 : l1.length < 4000) (hd : ∀ y ∈ l1, slices_Clone_int_int.f y.f1 = some y.f1) :
    Calls Try.prog 55 #[.slice A1 l1.length c1] w fun e w' => ∃ B d d', e = .returned (.slice B l1.length d) ∧ l1.length ≤ d ∧ Kd.R kc38 38 w' w.heap.size (fun k => w.heap.size ≤ k) (.slice B l1.length d') l1 ∧ Below w.heap.size w w' := by
  have HR1 := Aside0.mk hr1
  have HC := Aside0.mk hc1
  have H4 := Aside0.mk h4
  have HD := Aside0.mk hd
  have hu38 := Try.underlying38
  have HB := Aside0.mk (Below.refl w.heap.size w)
  clear hr1 hc1 h4 hd
  go_enter Try.func55, Try.ntmps55
  go_wp2
  go_loopg [3, 8] (l1.length + 1) (fun kq v3 v8 w' => ∃ x : Nat, v8 = .int .i64 (x : Int) ∧ Aside0 (x + kq = l1.length + 1 ∧ x ≤ l1.length) ∧ Aside0 (Kd.R kc38 38 w' w.heap.size (fun k => w.heap.size ≤ k) v3 (l1.take x)) ∧ Aside0 (Below w.heap.size w w'))
  case atStart => exact ⟨0, rfl, ⟨by omega, by omega⟩, ⟨Kd.R_nil _ _ _ _ _⟩, by first | exact HB | exact ⟨pw_below_drewN HB.out _⟩⟩
  case round =>
    obtain ⟨x, rfl, HM, HN, HBL⟩ := hrel
    obtain ⟨k1, rfl⟩ : ∃ k1, gk = k1 + 1 := ⟨gk - 1, by have := HM.out; omega⟩
    by_cases hlt : x < l1.length
    · have q0 : 0 ≤ ((x : Nat) : Int) := by omega
      have q1 : ((x : Nat) : Int) < (l1.length : Int) := by omega
      have c4b0 : decide (((x : Nat) : Int) < (l1.length : Int)) = true := decide_eq_true q1
      have c4b1 : decide (x < l1.length) = true := decide_eq_true hlt
      obtain ⟨ad, AD, cD, e, hx0, hx1, lD, gD⟩ := at_T38 (Kd.C_below HR1.out HBL.out) ((x : Nat) : Int) q0 q1
      cases e
      simp only [Int.toNat_natCast] at hx0 hx1
      have hR : rd_T38 l1 ((x : Nat) : Int) = l1[x] := by
        unfold rd_T38
        rw [List.getD_eq_getElem?_getD, Int.toNat_natCast, List.getElem?_eq_getElem hlt]
        rfl
      have HTK := Aside0.mk (show l1.take (x + 1) = l1.take x ++ [l1[x]] from List.take_succ_eq_append_getElem hlt)
      have HDD := Aside0.mk (HD.out l1[x] (List.getElem_mem hlt))
      have HQ := Aside0.mk hlt
      rw [hR] at hx0 hx1 lD gD
      have HLD := Aside0.mk lD
      have HGD := Aside0.mk gD
      clear hR lD gD
      generalize l1[x] = R6 at hx0 hx1 HTK HDD HLD HGD
      clear hlt
      replace q0 := eq_true q0
      replace q1 := eq_true q1
      go_upto_region 5 with (first | ((with_reducible refine gate_dst (N := 5) rfl ?_); refine box_event ?hg (N := 5) ?hd (cs := #[.bool false, .slice none 0 0]) (t := 38) ?hr ?_; (case hd => rfl); (case hg => rfl); (case hr => first | (go_simp; done) | (go_simp; rfl)); intro g5 hg w8 hbox hb; have HB8 := Aside0.mk hb; have BK5 := Aside0.mk hbox; have GE5 := Aside0.mk (show wr.heap.size ≤ g5 from by rw [hg]; exact Nat.le_refl _); have hz0 := (show w8.cell? ⟨g5, 0, none⟩ = some (.bool false) from (blk_cell hbox 0).trans rfl); have hf0 := blk_frozen hbox 0; have hz1 := (show w8.cell? ⟨g5, 1, none⟩ = some (.slice none 0 0) from (blk_cell hbox 1).trans rfl); have hf1 := blk_frozen hbox 1; replace hx0 := (hb.cell (World.block_lt_of_cell? _ _ hx0)).trans hx0; replace hx1 := (hb.cell (World.block_lt_of_cell? _ _ hx1)).trans hx1; clear hbox hb hg))
      have BK5f := Aside0.mk (show ((w8.setCell ⟨g5, 0, none⟩ (.bool R6.f0)).setCell ⟨g5, 1, none⟩ (.slice AD R6.f1.length cD)).heap[g5]? = some (.cells #[.bool R6.f0, .slice AD R6.f1.length cD] 38 (0, 0)) from blk_put (cs := #[.bool R6.f0, .slice none 0 0]) (blk_put BK5.out 0 _ rfl) 1 _ rfl)
      have HBX := Aside0.mk (show Below wr.heap.size wr ((w8.setCell ⟨g5, 0, none⟩ (.bool R6.f0)).setCell ⟨g5, 1, none⟩ (.slice AD R6.f1.length cD)) from by
        refine Below.setCell ?_ (show wr.heap.size ≤ g5 from GE5.out) _
        refine Below.setCell ?_ (show wr.heap.size ≤ g5 from GE5.out) _
        exact HB8.out)
      clear HB8 BK5 hz0 hz1 hf0 hf1 hx0 hx1
      generalize ((w8.setCell ⟨g5, 0, none⟩ (.bool R6.f0)).setCell ⟨g5, 1, none⟩ (.slice AD R6.f1.length cD)) = wf at BK5f HBX ⊢
      have HNf := Aside0.mk (Kd.R_below HN.out HBX.out)
      have HBf := Aside0.mk (HBL.out.trans (HBX.out.mono HBL.out.size))
      have HGf := Aside0.mk (Kd.C_below HGD.out HBX.out)
      clear HN HBL HGD HBX GE5
      refine start_ (n := 11) (S := fun w' => w'.cell? ⟨g5, 0, none⟩ = some (.bool R6.f0) ∧ w'.cell? ⟨g5, 1, none⟩ = some (.slice AD R6.f1.length cD)) (ds := [9]) #[false, false, false, false, false, false, false, false, false, false, false] (by kernel_rfl) rfl rfl ⟨((blk_cell BK5f.out 0).trans rfl), ((blk_cell BK5f.out 1).trans rfl)⟩ (fun hHeld => ?_)
      have HBD := Aside0.mk (below_drew1 HBf.out)
      have BK5D := Aside0.mk (blk_drew BK5f.out)
      have HND := Aside0.mk (R_drewO HNf.out)
      have HGD := Aside0.mk (Kd.C_drew HGf.out)
      generalize wf.drew = wD at HBD BK5D HND HGD hHeld ⊢
      refine pure_ (i := 0) (N := some 12) (v := ?_) (a' := ?_) #[true, false, false, false, false, false, false, false, false, false, false] rfl rfl (by kernel_rfl) (fun _ _ _ h => h) (Or.inl ⟨by rfl, ?_⟩) ?_ ?_
      rotate_left
      · intro w'
        go_simp
        with_reducible rfl
      rotate_left
      · simp only [Act.put, List.setIfInBounds_toArray, List.set_cons_zero, List.set_cons_succ, i64_w, i32_w]
        rfl
      refine pure_ (i := 1) (N := some 13) (v := ?_) (a' := ?_) #[true, true, false, false, false, false, false, false, false, false, false] rfl rfl (by kernel_rfl) (fun _ _ _ h => h) (Or.inl ⟨by rfl, ?_⟩) ?_ ?_
      rotate_left
      · intro w'
        go_simp
        with_reducible rfl
      rotate_left
      · simp only [Act.put, List.setIfInBounds_toArray, List.set_cons_zero, List.set_cons_succ, i64_w, i32_w]
        rfl
      refine pure_ (i := 3) (N := some 15) (v := ?_) (a' := ?_) #[true, true, false, true, false, false, false, false, false, false, false] rfl rfl (by kernel_rfl) (fun _ _ _ h => h) (Or.inl ⟨by rfl, ?_⟩) ?_ ?_
      rotate_left
      · intro w'
        go_simp
        with_reducible rfl
      rotate_left
      · simp only [Act.put, List.setIfInBounds_toArray, List.set_cons_zero, List.set_cons_succ, i64_w, i32_w]
        rfl
      refine take_ (i := 2) (N := some 14) (v := ?_) (a' := ?_) #[true, true, true, true, false, false, false, false, false, false, false] rfl rfl (by kernel_rfl) (fun _ _ _ h => h) (Or.inl ⟨by rfl, ?_⟩) hHeld ?_ ?_
      rotate_left
      · rintro w' ⟨s0, s1⟩
        go_simp
        with_reducible rfl
      rotate_left
      · simp only [Act.put, List.setIfInBounds_toArray, List.set_cons_zero, List.set_cons_succ, i64_w, i32_w]
        rfl
      refine take_ (i := 4) (N := some 16) (v := ?_) (a' := ?_) #[true, true, true, true, true, false, false, false, false, false, false] rfl rfl (by kernel_rfl) (fun _ _ _ h => h) (Or.inl ⟨by rfl, ?_⟩) hHeld ?_ ?_
      rotate_left
      · rintro w' ⟨s0, s1⟩
        go_simp
        with_reducible rfl
      rotate_left
      · simp only [Act.put, List.setIfInBounds_toArray, List.set_cons_zero, List.set_cons_succ, i64_w, i32_w]
        rfl
      refine one_ (i := 5) (N := some 17) #[true, true, true, true, true, true, false, false, false, false, false] rfl rfl (by kernel_rfl) (by decide) (fun K hK => ?_)
      refine goes_ Try.func70 (by kernel_rfl) rfl #[.slice AD R6.f1.length cD] (by rfl) rfl rfl (by (try simp only [List.map_toArray, List.map_cons, List.map_nil]); first | done | rfl) ?_
      refine (slices_Clone_int_int.calls AD cD R6.f1 R6.f1 _ HGD.out HLD.out HDD.out).mono ?_
      rintro e wa ⟨vd, rfl, hvd, hb⟩
      obtain ⟨BD, dD, evd⟩ := Kd.R_slice hvd
      subst evd
      have HLB := Aside0.mk (Kd.R_reads' hvd).2.1
      have HMD := Aside0.mk (Kd.R_mono (ok' := fun k => w.heap.size ≤ k ∧ some k ≠ u3.ownBlock) (Kd.R_lower (Kd.R_tight rfl hvd) HBD.out.size) (fun k hk => ⟨Nat.le_trans HBD.out.size (Kd.R_base hvd k hk.symm), fun e => by have h1 := Kd.R_lt HND.out k e.symm; have h2 := Kd.R_base hvd k hk.symm; omega⟩))
      replace HND := Aside0.mk (Kd.R_below HND.out hb)
      replace BK5D := Aside0.mk ((hb.block g5 (blk_lt BK5D.out)).trans BK5D.out)
      replace HBD := Aside0.mk (below_step HBD.out hb)
      clear hb hvd HGD
      refine ⟨_, rfl, ?_⟩
      refine hK.out _ _ ⟨(blk_cell BK5D.out 0).trans rfl, (blk_cell BK5D.out 1).trans rfl⟩ (fun hHeld => ?_)
      clear hK K
      refine norm_ (a' := ?_) ?_ ?_
      rotate_left
      · show Act.put _ (some 17) _ = _
        simp only [Act.put, List.setIfInBounds_toArray, List.set_cons_zero, List.set_cons_succ, i64_w, i32_w]
        rfl
      refine one_ (i := 6) (N := some 18) #[true, true, true, true, true, true, true, false, false, false, false] rfl rfl (by kernel_rfl) (by decide) (fun K hK => ?_)
      refine goes_ Try.func69 (by kernel_rfl) rfl #[.slice BD R6.f1.length dD] (by rfl) rfl rfl (by (try simp only [List.map_toArray, List.map_cons, List.map_nil]); first | done | rfl) ?_
      refine (clip_int BD R6.f1.length dD _ HLB.out).mono ?_
      rintro e wb ⟨rfl, hb⟩
      replace HMD := Aside0.mk (Kd.R_below HMD.out hb)
      replace HND := Aside0.mk (Kd.R_below HND.out hb)
      replace BK5D := Aside0.mk ((hb.block g5 (blk_lt BK5D.out)).trans BK5D.out)
      replace HBD := Aside0.mk (below_step HBD.out hb)
      clear hb
      refine ⟨_, rfl, ?_⟩
      refine hK.out _ _ ⟨(blk_cell BK5D.out 0).trans rfl, (blk_cell BK5D.out 1).trans rfl⟩ (fun hHeld => ?_)
      clear hK K
      refine norm_ (a' := ?_) ?_ ?_
      rotate_left
      · show Act.put _ (some 18) _ = _
        simp only [Act.put, List.setIfInBounds_toArray, List.set_cons_zero, List.set_cons_succ, i64_w, i32_w]
        rfl
      refine pure_ (i := 7) (N := some 19) (v := ?_) (a' := ?_) #[true, true, true, true, true, true, true, true, false, false, false] rfl rfl (by kernel_rfl) (fun _ _ _ h => h) (Or.inl ⟨by rfl, ?_⟩) ?_ ?_
      rotate_left
      · intro w'
        go_simp
        with_reducible rfl
      rotate_left
      · simp only [Act.put, List.setIfInBounds_toArray, List.set_cons_zero, List.set_cons_succ, i64_w, i32_w]
        rfl
      refine one_ (i := 8) (N := some 20) #[true, true, true, true, true, true, true, true, true, false, false] rfl rfl (by kernel_rfl) (by decide) (fun K hK => ?_)
      refine value_ (w1 := ?_) (v := ?_) (by rfl) rfl ?_ ?_
      rotate_left 2
      · go_simp
        constructor
        · rfl
        · rfl
      refine hK.out _ _ ⟨((below_alloc (Below.refl _ _) _).cell (World.block_lt_of_cell? _ _ ((blk_cell BK5D.out 0).trans rfl : _ = some (.bool R6.f0)))).trans ((blk_cell BK5D.out 0).trans rfl), ((below_alloc (Below.refl _ _) _).cell (World.block_lt_of_cell? _ _ ((blk_cell BK5D.out 1).trans rfl : _ = some (.slice AD R6.f1.length cD)))).trans ((blk_cell BK5D.out 1).trans rfl)⟩ (fun hHeld => ?_)
      clear hK K
      refine norm_ (a' := ?_) ?_ ?_
      rotate_left
      · show Act.put _ (some 20) _ = _
        simp only [Act.put, List.setIfInBounds_toArray, List.set_cons_zero, List.set_cons_succ, i64_w, i32_w]
        rfl
      refine last_ (i := 9) (N := some 21) #[true, true, true, true, true, true, true, true, true, true, false] rfl rfl (by kernel_rfl) (by decide) (fun K hK => ?_)
      refine Kd.R_append_step kc38 (w0 := w) w.heap.size (by rfl) (.tmp 12) (.tmp 20) 22 38 (.agg #[.bool false, .slice none 0 0]) 32 rfl Try.underlying22 infoSeg rfl (by decide) (by omega) u3 (l1.take x) R6 [.bool R6.f0, .slice BD R6.f1.length R6.f1.length] (fun k => w.heap.size ≤ k) (fun k => w.heap.size ≤ k ∧ some k ≠ u3.ownBlock) rfl rfl ?aP (fun _ hk => hk) (fun _ hk => Nat.le_trans HBD.out.size hk) ?aO ?aB ?aS ?aL ?_
      (case aP => exact ⟨[.bool R6.f0], [.slice BD R6.f1.length R6.f1.length], rfl, rfl, BD, R6.f1.length, R6.f1.length, dD, rfl, Nat.le_refl _, HMD.out⟩)
      (case aO => exact HND.out)
      (case aB => exact HBD.out)
      (case aS => exact HBD.out.size)
      (case aL => have := H4.out; have := List.length_take_le x l1; have := HQ.out; omega)
      intro v9 w9 ho9 hb9 hg9 hat9
      have HN9 := Aside0.mk ho9
      have HB9 := Aside0.mk hb9
      clear ho9 hb9 hg9 hat9
      refine hK.out _ _ ?_
      clear hK K
      refine norm_ (a' := ?_) ?_ ?_
      rotate_left
      · show Act.put _ (some 21) _ = _
        simp only [Act.put, List.setIfInBounds_toArray, List.set_cons_zero, List.set_cons_succ, i64_w, i32_w]
        rfl
      refine pure_ (i := 10) (N := some 3) (v := ?_) (a' := ?_) #[true, true, true, true, true, true, true, true, true, true, true] rfl rfl (by kernel_rfl) (fun _ _ _ h => h) (Or.inl ⟨by rfl, ?_⟩) ?_ ?_
      rotate_left
      · intro w'
        go_simp
        with_reducible rfl
      rotate_left
      · simp only [Act.put, List.setIfInBounds_toArray, List.set_cons_zero, List.set_cons_succ, i64_w, i32_w]
        rfl
      refine done_ (by kernel_rfl) ?_
      go_wp2
      go_roundg k1
      case measure => omega
      case rel =>
        refine ⟨x + 1, ?ii, ⟨by have := HM.out; omega, by have := HQ.out; omega⟩, ⟨by rw [HTK.out]; exact HN9.out⟩, HB9⟩
        case ii =>
          have hw : wrap64 ((x : Nat) + 1 : Int) = ((x + 1 : Nat) : Int) := by
            have := HQ.out
            have := H4.out
            unfold wrap64
            omega
          first | rfl | (simp [hw]; done) | (rw [hw])
    · have c4b0 : decide (((x : Nat) : Int) < (l1.length : Int)) = false := decide_eq_false (by omega)
      have HN2 := Aside0.mk (show Kd.R kc38 38 wr w.heap.size (fun k => w.heap.size ≤ k) u3 l1 from by
        have hN := HN.out
        rw [List.take_of_length_le (by omega)] at hN
        exact hN)
      obtain ⟨BL, dL, eL⟩ := Kd.R_slice HN2.out
      subst eL
      have hlL := (Kd.R_reads' HN2.out).2.1
      clear HN
      go_wp2_with (first | ((with_reducible refine gate_callee (f := 71) rfl ?_); refine goesL_ (some 24) rfl rfl Try.func71 (by kernel_rfl) rfl #[.slice BL l1.length dL] rfl (by (try simp only [List.map_toArray, List.map_cons, List.map_nil]); first | done | rfl) ?_; refine (clip_seg BL l1.length dL _ hlL).mono ?_; rintro e wc ⟨rfl, hb⟩; refine ⟨_, rfl, ?_⟩; have HBC := Aside0.mk (below_step HBL.out hb); have HNC := Aside0.mk (Kd.R_below HN2.out hb); clear hb))
      go_ret
      exact ⟨BL, l1.length, dL, rfl, Nat.le_refl _, HNC.out, HBC.out⟩
set_option maxHeartbeats 4000000 in
set_option maxRecDepth 100000 in
theorem infoRaw : (Try.prog.info? 58).map (fun i => (i.zero, i.size, i.bytes)) = some (some (.agg #[.int .i64 0, .int .i64 0, .slice none 0 0]), 3, 40) := by kernel_rfl
set_option maxHeartbeats 4000000 in
set_option maxRecDepth 100000 in
theorem attr_own (o : Int) (A1 : Option Addr) (c1 : Nat) (l1 : List S38) (nx md pr : Int) (A5 : Option Addr) (c5 : Nat) (l5 : List Int) (A6 : Option Addr) (c6 : Nat) (l6 : List S58) (w : World)
    (hr1 : Kd.C k38 w A1 l1.length l1) (hc1 : l1.length ≤ c1) (hr5 : Kd.C (Kd.int .u32) w A5 l5.length l5) (hc5 : l5.length ≤ c5) (hr6 : Kd.C k58 w A6 l6.length l6) (hc6 : l6.length ≤ c6) (h4 : l1.length < 4000) (hd1 : ∀ y ∈ l1, slices_Clone_int_int.f y.f1 = some y.f1) (h5 : slices_Clone_uint32_uint32.f l5 = some l5) (h6 : l6.length < 4000) (hd : ∀ r ∈ l6, bytes_Clone.f r.f2 = some r.f2) :
    Calls Try.prog 54 #[.agg #[.int .i64 o, .slice A1 l1.length c1, .int .u32 nx, .int .i64 md, .int .i64 pr, .slice A5 l5.length c5, .slice A6 l6.length c6]] w fun e w' => ∃ B1 d1 d1' B5 d5' B6 d6', e = .returned (.agg #[.int .i64 o, .slice B1 l1.length d1, .int .u32 nx, .int .i64 md, .int .i64 pr, .slice B5 l5.length l5.length, .slice B6 l6.length l6.length]) ∧ l1.length ≤ d1 ∧ Kd.R kc38 38 w' w.heap.size (fun k => w.heap.size ≤ k) (.slice B1 l1.length d1') l1 ∧ Kd.R (Kd.int .u32) 40 w' w.heap.size (fun k => w.heap.size ≤ k) (.slice B5 l5.length d5') l5 ∧ Kd.R k58 58 w' w.heap.size (fun k => w.heap.size ≤ k) (.slice B6 l6.length d6') l6 ∧ Below w.heap.size w w' := by
  have HR1 := Aside0.mk hr1
  have HR5 := Aside0.mk hr5
  have HR6 := Aside0.mk hr6
  have HC := Aside0.mk (And.intro hc1 (And.intro hc5 hc6))
  have H4 := Aside0.mk h4
  have HD1 := Aside0.mk hd1
  have H5 := Aside0.mk h5
  have H6 := Aside0.mk h6
  have HD := Aside0.mk hd
  have hu46 := Try.underlying46
  have hu58 := Try.underlying58
  have HB := Aside0.mk (Below.refl w.heap.size w)
  clear hr1 hc1 hr5 hc5 hr6 hc6 h4 hd1 h5 h6 hd
  go_enter Try.func54, Try.ntmps54
  go_upto_region 1 with (first | ((with_reducible refine gate_dst (N := 1) rfl ?_); refine box_event ?hg (N := 1) ?hd (cs := #[.int .i64 o, .slice A1 l1.length c1, .int .u32 nx, .int .i64 md, .int .i64 pr, .slice A5 l5.length c5, .slice A6 l6.length c6]) (t := 46) ?hr ?_; (case hd => rfl); (case hg => rfl); (case hr => first | (go_simp; done) | (go_simp; rfl)); intro g1 hg w1 hbox hb; have HB1 := Aside0.mk (below_step HB.out hb); have BK11 := Aside0.mk hbox; have GE1 := Aside0.mk (show w.heap.size ≤ g1 from by rw [hg]; exact Nat.le_refl _); clear hbox hb hg) | ((with_reducible refine gate_dst (N := 2) rfl ?_); refine box_event ?hg (N := 2) ?hd (cs := #[.int .i64 0, .slice none 0 0, .int .u32 0, .int .i64 0, .int .i64 0, .slice none 0 0, .slice none 0 0]) (t := 46) ?hr ?_; (case hd => rfl); (case hg => rfl); (case hr => first | (go_simp; done) | (go_simp; rfl)); intro g2 hg w2 hbox hb; have HB2 := Aside0.mk (below_step HB1.out hb); have BK1 := Aside0.mk (show w2.heap[g1]? = _ from (hb.block _ (blk_lt BK11.out)).trans BK11.out); have BK2 := Aside0.mk hbox; have GE2 := Aside0.mk (show g1 < g2 from by rw [hg]; exact blk_lt BK11.out); clear BK11; clear hbox hb hg))
  refine start_ (n := 11) (S := fun w' => w'.cell? ⟨g1, 1, none⟩ = some (.slice A1 l1.length c1) ∧ w'.cell? ⟨g1, 5, none⟩ = some (.slice A5 l5.length c5)) (ds := [8, 10]) #[false, false, false, false, false, false, false, false, false, false, false] (by kernel_rfl) rfl rfl ⟨((blk_cell BK1.out 1).trans rfl), ((blk_cell BK1.out 5).trans rfl)⟩ (fun hHeld => ?_)
  have HBD := Aside0.mk (below_drew1 HB2.out)
  have BK1D := Aside0.mk (blk_drew BK1.out)
  have BK2D := Aside0.mk (blk_drew BK2.out)
  generalize w2.drew = wD at HBD BK1D BK2D hHeld ⊢
  refine pure_ (i := 0) (N := some 6) (v := ?_) (a' := ?_) #[true, false, false, false, false, false, false, false, false, false, false] rfl rfl (by kernel_rfl) (fun _ _ _ h => h) (Or.inl ⟨by rfl, ?_⟩) ?_ ?_
  rotate_left
  · intro w'
    go_simp
    with_reducible rfl
  rotate_left
  · simp only [Act.put, List.setIfInBounds_toArray, List.set_cons_zero, List.set_cons_succ, i64_w, i32_w]
    rfl
  refine pure_ (i := 3) (N := some 9) (v := ?_) (a' := ?_) #[true, false, false, true, false, false, false, false, false, false, false] rfl rfl (by kernel_rfl) (fun _ _ _ h => h) (Or.inl ⟨by rfl, ?_⟩) ?_ ?_
  rotate_left
  · intro w'
    go_simp
    with_reducible rfl
  rotate_left
  · simp only [Act.put, List.setIfInBounds_toArray, List.set_cons_zero, List.set_cons_succ, i64_w, i32_w]
    rfl
  refine take_ (i := 1) (N := some 7) (v := ?_) (a' := ?_) #[true, true, false, true, false, false, false, false, false, false, false] rfl rfl (by kernel_rfl) (fun _ _ _ h => h) (Or.inl ⟨by rfl, ?_⟩) hHeld ?_ ?_
  rotate_left
  · rintro w' ⟨s0, s1⟩
    go_simp
    with_reducible rfl
  rotate_left
  · simp only [Act.put, List.setIfInBounds_toArray, List.set_cons_zero, List.set_cons_succ, i64_w, i32_w]
    rfl
  refine take_ (i := 4) (N := some 10) (v := ?_) (a' := ?_) #[true, true, false, true, true, false, false, false, false, false, false] rfl rfl (by kernel_rfl) (fun _ _ _ h => h) (Or.inl ⟨by rfl, ?_⟩) hHeld ?_ ?_
  rotate_left
  · rintro w' ⟨s0, s1⟩
    go_simp
    with_reducible rfl
  rotate_left
  · simp only [Act.put, List.setIfInBounds_toArray, List.set_cons_zero, List.set_cons_succ, i64_w, i32_w]
    rfl
  refine one_ (i := 2) (N := some 8) #[true, true, true, true, true, false, false, false, false, false, false] rfl rfl (by kernel_rfl) (by decide) (fun K hK => ?_)
  refine goes_ Try.func55 (by kernel_rfl) rfl #[.slice A1 l1.length c1] (by rfl) rfl rfl (by (try simp only [List.map_toArray, List.map_cons, List.map_nil]); first | done | rfl) ?_
  refine (path_own A1 c1 l1 _ (Kd.C_below HR1.out HBD.out) HC.out.1 H4.out HD1.out).mono ?_
  rintro e w3 ⟨B1, d1, d1', rfl, hl1, hv1, hb⟩
  have HL1 := Aside0.mk hl1
  have HF1 := Aside0.mk (Kd.R_mono (ok' := fun k => g2 < k) (Kd.R_lower hv1 (show g2 + 1 ≤ _ from blk_lt BK2D.out)) (fun k hk => Nat.lt_of_lt_of_le (blk_lt BK2D.out) hk))
  have HBE := Aside0.mk (below_step HBD.out hb)
  have BK1E := Aside0.mk ((hb.block g1 (blk_lt BK1D.out)).trans BK1D.out)
  have BK2E := Aside0.mk ((hb.block g2 (blk_lt BK2D.out)).trans BK2D.out)
  clear HBD BK1D BK2D
  have HBD := HBE
  have BK1D := BK1E
  have BK2D := BK2E
  clear HBE BK1E BK2E
  clear hb hv1 hl1
  refine ⟨_, rfl, ?_⟩
  refine hK.out _ _ ⟨(blk_cell BK1D.out 1).trans rfl, (blk_cell BK1D.out 5).trans rfl⟩ (fun hHeld => ?_)
  clear hK K
  refine norm_ (a' := ?_) ?_ ?_
  rotate_left
  · show Act.put _ (some 8) _ = _
    simp only [Act.put, List.setIfInBounds_toArray, List.set_cons_zero, List.set_cons_succ, i64_w, i32_w]
    rfl
  refine pure_ (i := 7) (N := some 13) (v := ?_) (a' := ?_) #[true, true, true, true, true, false, false, true, false, false, false] rfl rfl (by kernel_rfl) (fun _ _ _ h => h) (Or.inl ⟨by rfl, ?_⟩) ?_ ?_
  rotate_left
  · intro w'
    go_simp
    with_reducible rfl
  rotate_left
  · simp only [Act.put, List.setIfInBounds_toArray, List.set_cons_zero, List.set_cons_succ, i64_w, i32_w]
    rfl
  refine one_ (i := 5) (N := some 11) #[true, true, true, true, true, true, false, true, false, false, false] rfl rfl (by kernel_rfl) (by decide) (fun K hK => ?_)
  refine goes_ Try.func66 (by kernel_rfl) rfl #[.slice A5 l5.length c5] (by rfl) rfl rfl (by (try simp only [List.map_toArray, List.map_cons, List.map_nil]); first | done | rfl) ?_
  refine (slices_Clone_uint32_uint32.calls A5 c5 l5 l5 _ (Kd.C_below HR5.out HBD.out) HC.out.2.1 H5.out).mono ?_
  rintro e w4 ⟨v5, rfl, hv5, hb⟩
  obtain ⟨B5, d5, ev5⟩ := Kd.R_slice hv5
  subst ev5
  replace HF1 := Aside0.mk (Kd.R_below HF1.out hb)
  have HV5 := Aside0.mk (Kd.R_reads' hv5).2.1
  have HF5 := Aside0.mk (Kd.R_mono (ok' := fun k => g2 < k) (Kd.R_lower (Kd.R_tight rfl hv5) (show g2 + 1 ≤ _ from blk_lt BK2D.out)) (fun k hk => Nat.lt_of_lt_of_le (blk_lt BK2D.out) (Kd.R_base hv5 k hk.symm)))
  have HBE := Aside0.mk (below_step HBD.out hb)
  have BK1E := Aside0.mk ((hb.block g1 (blk_lt BK1D.out)).trans BK1D.out)
  have BK2E := Aside0.mk ((hb.block g2 (blk_lt BK2D.out)).trans BK2D.out)
  clear HBD BK1D BK2D
  have HBD := HBE
  have BK1D := BK1E
  have BK2D := BK2E
  clear HBE BK1E BK2E
  clear hb hv5
  refine ⟨_, rfl, ?_⟩
  refine hK.out _ _ ⟨(blk_cell BK1D.out 1).trans rfl, (blk_cell BK1D.out 5).trans rfl⟩ (fun hHeld => ?_)
  clear hK K
  refine norm_ (a' := ?_) ?_ ?_
  rotate_left
  · show Act.put _ (some 11) _ = _
    simp only [Act.put, List.setIfInBounds_toArray, List.set_cons_zero, List.set_cons_succ, i64_w, i32_w]
    rfl
  refine one_ (i := 6) (N := some 12) #[true, true, true, true, true, true, true, true, false, false, false] rfl rfl (by kernel_rfl) (by decide) (fun K hK => ?_)
  refine goes_ Try.func65 (by kernel_rfl) rfl #[.slice B5 l5.length d5] (by rfl) rfl rfl (by (try simp only [List.map_toArray, List.map_cons, List.map_nil]); first | done | rfl) ?_
  refine (clip_u32 B5 l5.length d5 _ HV5.out).mono ?_
  rintro e w5 ⟨rfl, hb⟩
  replace HF1 := Aside0.mk (Kd.R_below HF1.out hb)
  replace HF5 := Aside0.mk (Kd.R_below HF5.out hb)
  have HBE := Aside0.mk (below_step HBD.out hb)
  have BK1E := Aside0.mk ((hb.block g1 (blk_lt BK1D.out)).trans BK1D.out)
  have BK2E := Aside0.mk ((hb.block g2 (blk_lt BK2D.out)).trans BK2D.out)
  clear HBD BK1D BK2D
  have HBD := HBE
  have BK1D := BK1E
  have BK2D := BK2E
  clear HBE BK1E BK2E
  clear hb
  have hs1 : w5.cell? ⟨g1, 1, none⟩ = some (.slice A1 l1.length c1) := (blk_cell BK1D.out 1).trans rfl
  have hs5 : w5.cell? ⟨g1, 5, none⟩ = some (.slice A5 l5.length c5) := (blk_cell BK1D.out 5).trans rfl
  have hsf1 := blk_frozen BK1D.out 1
  have hsf5 := blk_frozen BK1D.out 5
  refine ⟨_, rfl, ?_⟩
  refine hK.out _ _ ⟨(blk_cell BK1D.out 1).trans rfl, (blk_cell BK1D.out 5).trans rfl⟩ (fun hHeld => ?_)
  clear hK K
  refine norm_ (a' := ?_) ?_ ?_
  rotate_left
  · show Act.put _ (some 12) _ = _
    simp only [Act.put, List.setIfInBounds_toArray, List.set_cons_zero, List.set_cons_succ, i64_w, i32_w]
    rfl
  refine last_ (i := 8) (N := none) #[true, true, true, true, true, true, true, true, true, false, false] rfl rfl (by kernel_rfl) (by decide) (fun K hK => ?_)
  refine skip_ (w1 := ?_) (by rfl) rfl ?_ ?_
  rotate_left
  · go_simp
    rfl
  refine hK.out _ _ ?_
  clear hK K
  refine pure_ (i := 9) (N := some 14) (v := ?_) (a' := ?_) #[true, true, true, true, true, true, true, true, true, true, false] rfl rfl (by kernel_rfl) (fun _ _ _ h => h) (Or.inl ⟨by rfl, ?_⟩) ?_ ?_
  rotate_left
  · intro w'
    go_simp
    with_reducible rfl
  rotate_left
  · simp only [Act.put, List.setIfInBounds_toArray, List.set_cons_zero, List.set_cons_succ, i64_w, i32_w]
    rfl
  refine last_ (i := 10) (N := none) #[true, true, true, true, true, true, true, true, true, true, true] rfl rfl (by kernel_rfl) (by decide) (fun K hK => ?_)
  refine skip_ (w1 := ?_) (by rfl) rfl ?_ ?_
  rotate_left
  · go_simp
    rfl
  refine hK.out _ _ ?_
  clear hK K
  refine done_ (by kernel_rfl) ?_
  have BK16 := Aside0.mk (show ((w5.setCell ⟨g1, 1, none⟩ (.slice B1 l1.length d1)).setCell ⟨g1, 5, none⟩ (.slice B5 l5.length l5.length)).heap[g1]? = some (.cells #[.int .i64 o, .slice B1 l1.length d1, .int .u32 nx, .int .i64 md, .int .i64 pr, .slice B5 l5.length l5.length, .slice A6 l6.length c6] 46 (0, 0)) from blk_put (cs := #[.int .i64 o, .slice B1 l1.length d1, .int .u32 nx, .int .i64 md, .int .i64 pr, .slice A5 l5.length c5, .slice A6 l6.length c6]) (blk_put BK1D.out 1 _ rfl) 5 _ rfl)
  have BK26 := Aside0.mk (show ((w5.setCell ⟨g1, 1, none⟩ (.slice B1 l1.length d1)).setCell ⟨g1, 5, none⟩ (.slice B5 l5.length l5.length)).heap[g2]? = some (.cells #[.int .i64 0, .slice none 0 0, .int .u32 0, .int .i64 0, .int .i64 0, .slice none 0 0, .slice none 0 0] 46 (0, 0)) from (Below.heap_setCell _ ⟨g1, _, none⟩ _ g2 (by have := GE2.out; show g2 ≠ g1; omega)).trans ((Below.heap_setCell _ ⟨g1, _, none⟩ _ g2 (by have := GE2.out; show g2 ≠ g1; omega)).trans BK2D.out))
  have HF16 := Aside0.mk (Kd.R_far (p := ⟨g1, 5, none⟩) (Kd.R_far (p := ⟨g1, 1, none⟩) HF1.out (fun k hk => by have := GE2.out; show k ≠ g1; omega) (.slice B1 l1.length d1)) (fun k hk => by have := GE2.out; show k ≠ g1; omega) (.slice B5 l5.length l5.length))
  have HF56 := Aside0.mk (Kd.R_far (p := ⟨g1, 5, none⟩) (Kd.R_far (p := ⟨g1, 1, none⟩) HF5.out (fun k hk => by have := GE2.out; show k ≠ g1; omega) (.slice B1 l1.length d1)) (fun k hk => by have := GE2.out; show k ≠ g1; omega) (.slice B5 l5.length l5.length))
  have HB6 := Aside0.mk (Below.setCell (p := ⟨g1, 5, none⟩) (Below.setCell (p := ⟨g1, 1, none⟩) HBD.out GE1.out (.slice B1 l1.length d1)) GE1.out (.slice B5 l5.length l5.length))
  clear HB1 HB2 BK1 BK2 HBD BK1D BK2D HF1 HF5 HV5 hs1 hs5 hsf1 hsf5
  generalize ((w5.setCell ⟨g1, 1, none⟩ (.slice B1 l1.length d1)).setCell ⟨g1, 5, none⟩ (.slice B5 l5.length l5.length)) = w6 at BK16 BK26 HF16 HF56 HB6 ⊢
  have hcr : w6.cell? ⟨g1, 6, none⟩ = some (.slice A6 l6.length c6) := (blk_cell BK16.out 6).trans rfl
  go_wp2
  clear hcr
  go_loopg [3, 18] (l6.length + 1) (fun kq v3 v18 w' => ∃ x : Nat, v18 = .int .i64 (x : Int) ∧ Aside0 (x + kq = l6.length + 1 ∧ x ≤ l6.length) ∧ Aside0 (Kd.R k58 58 w' w6.heap.size (fun k => w6.heap.size ≤ k) v3 (l6.take x)) ∧ Aside0 (Below w6.heap.size w6 w'))
  case atStart => exact ⟨0, rfl, ⟨by omega, by omega⟩, ⟨Kd.R_nil _ _ _ _ _⟩, ⟨Below.refl _ _⟩⟩
  case round =>
    obtain ⟨x, rfl, HM, HN, HBL⟩ := hrel
    obtain ⟨k1, rfl⟩ : ∃ k1, gk = k1 + 1 := ⟨gk - 1, by have := HM.out; omega⟩
    by_cases hlt : x < l6.length
    · have q0 : 0 ≤ ((x : Nat) : Int) := by omega
      have q1 : ((x : Nat) : Int) < (l6.length : Int) := by omega
      have c4b0 : decide (((x : Nat) : Int) < (l6.length : Int)) = true := decide_eq_true q1
      have c4b1 : decide (x < l6.length) = true := decide_eq_true hlt
      obtain ⟨ad, AD, cD, e, hx0, hx1, hx2, lD, gD⟩ := at_T58 (Kd.C_below HR6.out (HB6.out.trans (HBL.out.mono HB6.out.size))) ((x : Nat) : Int) q0 q1
      cases e
      simp only [Int.toNat_natCast] at hx0 hx1 hx2
      have hR : rd_T58 l6 ((x : Nat) : Int) = l6[x] := by
        unfold rd_T58
        rw [List.getD_eq_getElem?_getD, Int.toNat_natCast, List.getElem?_eq_getElem hlt]
        rfl
      have HTK := Aside0.mk (show l6.take (x + 1) = l6.take x ++ [l6[x]] from List.take_succ_eq_append_getElem hlt)
      have HDD := Aside0.mk (HD.out l6[x] (List.getElem_mem hlt))
      have HQ := Aside0.mk hlt
      rw [hR] at hx0 hx1 hx2 lD gD
      have HLD := Aside0.mk lD
      have HGD := Aside0.mk gD
      clear hR lD gD
      generalize l6[x] = R6 at hx0 hx1 hx2 HTK HDD HLD HGD
      clear hlt
      replace q0 := eq_true q0
      replace q1 := eq_true q1
      go_upto_region 6 with (first | ((with_reducible refine gate_dst (N := 5) rfl ?_); refine box_event ?hg (N := 5) ?hd (cs := #[.int .i64 0, .int .i64 0, .slice none 0 0]) (t := 58) ?hr ?_; (case hd => rfl); (case hg => rfl); (case hr => first | (go_simp; done) | (go_simp; rfl)); intro g5 hg w8 hbox hb; have HB8 := Aside0.mk hb; have BK5 := Aside0.mk hbox; have GE5 := Aside0.mk (show wr.heap.size ≤ g5 from by rw [hg]; exact Nat.le_refl _); have hz0 := (show w8.cell? ⟨g5, 0, none⟩ = some (.int .i64 0) from (blk_cell hbox 0).trans rfl); have hf0 := blk_frozen hbox 0; have hz1 := (show w8.cell? ⟨g5, 1, none⟩ = some (.int .i64 0) from (blk_cell hbox 1).trans rfl); have hf1 := blk_frozen hbox 1; have hz2 := (show w8.cell? ⟨g5, 2, none⟩ = some (.slice none 0 0) from (blk_cell hbox 2).trans rfl); have hf2 := blk_frozen hbox 2; replace hx0 := (hb.cell (World.block_lt_of_cell? _ _ hx0)).trans hx0; replace hx1 := (hb.cell (World.block_lt_of_cell? _ _ hx1)).trans hx1; replace hx2 := (hb.cell (World.block_lt_of_cell? _ _ hx2)).trans hx2; clear hbox hb hg))
      have BK5f := Aside0.mk (show (((w8.setCell ⟨g5, 0, none⟩ (.int .i64 R6.f0)).setCell ⟨g5, 1, none⟩ (.int .i64 R6.f1)).setCell ⟨g5, 2, none⟩ (.slice AD R6.f2.length cD)).heap[g5]? = some (.cells #[.int .i64 R6.f0, .int .i64 R6.f1, .slice AD R6.f2.length cD] 58 (0, 0)) from blk_put (cs := #[.int .i64 R6.f0, .int .i64 R6.f1, .slice none 0 0]) (blk_put (cs := #[.int .i64 R6.f0, .int .i64 0, .slice none 0 0]) (blk_put BK5.out 0 _ rfl) 1 _ rfl) 2 _ rfl)
      have HBX := Aside0.mk (show Below wr.heap.size wr (((w8.setCell ⟨g5, 0, none⟩ (.int .i64 R6.f0)).setCell ⟨g5, 1, none⟩ (.int .i64 R6.f1)).setCell ⟨g5, 2, none⟩ (.slice AD R6.f2.length cD)) from by
        refine Below.setCell ?_ (show wr.heap.size ≤ g5 from GE5.out) _
        refine Below.setCell ?_ (show wr.heap.size ≤ g5 from GE5.out) _
        refine Below.setCell ?_ (show wr.heap.size ≤ g5 from GE5.out) _
        exact HB8.out)
      clear HB8 BK5 hz0 hz1 hz2 hf0 hf1 hf2 hx0 hx1 hx2
      generalize (((w8.setCell ⟨g5, 0, none⟩ (.int .i64 R6.f0)).setCell ⟨g5, 1, none⟩ (.int .i64 R6.f1)).setCell ⟨g5, 2, none⟩ (.slice AD R6.f2.length cD)) = wf at BK5f HBX ⊢
      have HNf := Aside0.mk (Kd.R_below HN.out HBX.out)
      have HBf := Aside0.mk (HBL.out.trans (HBX.out.mono HBL.out.size))
      have HGf := Aside0.mk (Kd.C_below HGD.out HBX.out)
      clear HN HBL HGD HBX GE5
      refine start_ (n := 12) (S := fun w' => w'.cell? ⟨g5, 0, none⟩ = some (.int .i64 R6.f0) ∧ w'.cell? ⟨g5, 1, none⟩ = some (.int .i64 R6.f1) ∧ w'.cell? ⟨g5, 2, none⟩ = some (.slice AD R6.f2.length cD)) (ds := [10]) #[false, false, false, false, false, false, false, false, false, false, false, false] (by kernel_rfl) rfl rfl ⟨((blk_cell BK5f.out 0).trans rfl), ((blk_cell BK5f.out 1).trans rfl), ((blk_cell BK5f.out 2).trans rfl)⟩ (fun hHeld => ?_)
      have HBD := Aside0.mk (below_drew1 HBf.out)
      have BK5D := Aside0.mk (blk_drew BK5f.out)
      have HND := Aside0.mk (R_drewO HNf.out)
      have HGD := Aside0.mk (Kd.C_drew HGf.out)
      generalize wf.drew = wD at HBD BK5D HND HGD hHeld ⊢
      refine pure_ (i := 0) (N := some 22) (v := ?_) (a' := ?_) #[true, false, false, false, false, false, false, false, false, false, false, false] rfl rfl (by kernel_rfl) (fun _ _ _ h => h) (Or.inl ⟨by rfl, ?_⟩) ?_ ?_
      rotate_left
      · intro w'
        go_simp
        with_reducible rfl
      rotate_left
      · simp only [Act.put, List.setIfInBounds_toArray, List.set_cons_zero, List.set_cons_succ, i64_w, i32_w]
        rfl
      refine pure_ (i := 1) (N := some 23) (v := ?_) (a' := ?_) #[true, true, false, false, false, false, false, false, false, false, false, false] rfl rfl (by kernel_rfl) (fun _ _ _ h => h) (Or.inl ⟨by rfl, ?_⟩) ?_ ?_
      rotate_left
      · intro w'
        go_simp
        with_reducible rfl
      rotate_left
      · simp only [Act.put, List.setIfInBounds_toArray, List.set_cons_zero, List.set_cons_succ, i64_w, i32_w]
        rfl
      refine pure_ (i := 3) (N := some 25) (v := ?_) (a' := ?_) #[true, true, false, true, false, false, false, false, false, false, false, false] rfl rfl (by kernel_rfl) (fun _ _ _ h => h) (Or.inl ⟨by rfl, ?_⟩) ?_ ?_
      rotate_left
      · intro w'
        go_simp
        with_reducible rfl
      rotate_left
      · simp only [Act.put, List.setIfInBounds_toArray, List.set_cons_zero, List.set_cons_succ, i64_w, i32_w]
        rfl
      refine pure_ (i := 5) (N := some 27) (v := ?_) (a' := ?_) #[true, true, false, true, false, true, false, false, false, false, false, false] rfl rfl (by kernel_rfl) (fun _ _ _ h => h) (Or.inl ⟨by rfl, ?_⟩) ?_ ?_
      rotate_left
      · intro w'
        go_simp
        with_reducible rfl
      rotate_left
      · simp only [Act.put, List.setIfInBounds_toArray, List.set_cons_zero, List.set_cons_succ, i64_w, i32_w]
        rfl
      refine take_ (i := 2) (N := some 24) (v := ?_) (a' := ?_) #[true, true, true, true, false, true, false, false, false, false, false, false] rfl rfl (by kernel_rfl) (fun _ _ _ h => h) (Or.inl ⟨by rfl, ?_⟩) hHeld ?_ ?_
      rotate_left
      · rintro w' ⟨s0, s1, s2⟩
        go_simp
        with_reducible rfl
      rotate_left
      · simp only [Act.put, List.setIfInBounds_toArray, List.set_cons_zero, List.set_cons_succ, i64_w, i32_w]
        rfl
      refine take_ (i := 4) (N := some 26) (v := ?_) (a' := ?_) #[true, true, true, true, true, true, false, false, false, false, false, false] rfl rfl (by kernel_rfl) (fun _ _ _ h => h) (Or.inl ⟨by rfl, ?_⟩) hHeld ?_ ?_
      rotate_left
      · rintro w' ⟨s0, s1, s2⟩
        go_simp
        with_reducible rfl
      rotate_left
      · simp only [Act.put, List.setIfInBounds_toArray, List.set_cons_zero, List.set_cons_succ, i64_w, i32_w]
        rfl
      refine take_ (i := 6) (N := some 28) (v := ?_) (a' := ?_) #[true, true, true, true, true, true, true, false, false, false, false, false] rfl rfl (by kernel_rfl) (fun _ _ _ h => h) (Or.inl ⟨by rfl, ?_⟩) hHeld ?_ ?_
      rotate_left
      · rintro w' ⟨s0, s1, s2⟩
        go_simp
        with_reducible rfl
      rotate_left
      · simp only [Act.put, List.setIfInBounds_toArray, List.set_cons_zero, List.set_cons_succ, i64_w, i32_w]
        rfl
      refine one_ (i := 7) (N := some 29) #[true, true, true, true, true, true, true, true, false, false, false, false] rfl rfl (by kernel_rfl) (by decide) (fun K hK => ?_)
      refine goes_ Try.func67 (by kernel_rfl) rfl #[.slice AD R6.f2.length cD] (by rfl) rfl rfl (by (try simp only [List.map_toArray, List.map_cons, List.map_nil]); first | done | rfl) ?_
      refine (bytes_Clone.calls AD cD R6.f2 R6.f2 _ HGD.out HLD.out HDD.out).mono ?_
      rintro e wa ⟨vd, rfl, hvd, hb⟩
      obtain ⟨BD, dD, evd⟩ := Kd.R_slice hvd
      subst evd
      have HLB := Aside0.mk (Kd.R_reads' hvd).2.1
      have HMD := Aside0.mk (Kd.R_mono (ok' := fun k => w6.heap.size ≤ k ∧ some k ≠ u3.ownBlock) (Kd.R_lower (Kd.R_tight rfl hvd) HBD.out.size) (fun k hk => ⟨Nat.le_trans HBD.out.size (Kd.R_base hvd k hk.symm), fun e => by have h1 := Kd.R_lt HND.out k e.symm; have h2 := Kd.R_base hvd k hk.symm; omega⟩))
      replace HND := Aside0.mk (Kd.R_below HND.out hb)
      replace BK5D := Aside0.mk ((hb.block g5 (blk_lt BK5D.out)).trans BK5D.out)
      replace HBD := Aside0.mk (below_step HBD.out hb)
      clear hb hvd HGD
      refine ⟨_, rfl, ?_⟩
      refine hK.out _ _ ⟨(blk_cell BK5D.out 0).trans rfl, (blk_cell BK5D.out 1).trans rfl, (blk_cell BK5D.out 2).trans rfl⟩ (fun hHeld => ?_)
      clear hK K
      refine norm_ (a' := ?_) ?_ ?_
      rotate_left
      · show Act.put _ (some 29) _ = _
        simp only [Act.put, List.setIfInBounds_toArray, List.set_cons_zero, List.set_cons_succ, i64_w, i32_w]
        rfl
      refine pure_ (i := 8) (N := some 30) (v := ?_) (a' := ?_) #[true, true, true, true, true, true, true, true, true, false, false, false] rfl rfl (by kernel_rfl) (fun _ _ _ h => h) (Or.inl ⟨by rfl, ?_⟩) ?_ ?_
      rotate_left
      · intro w'
        go_simp
        with_reducible rfl
      rotate_left
      · simp only [Act.put, List.setIfInBounds_toArray, List.set_cons_zero, List.set_cons_succ, i64_w, i32_w]
        rfl
      refine one_ (i := 9) (N := some 31) #[true, true, true, true, true, true, true, true, true, true, false, false] rfl rfl (by kernel_rfl) (by decide) (fun K hK => ?_)
      refine value_ (w1 := ?_) (v := ?_) (by rfl) rfl ?_ ?_
      rotate_left 2
      · go_simp
        constructor
        · rfl
        · rfl
      refine hK.out _ _ ⟨((below_alloc (Below.refl _ _) _).cell (World.block_lt_of_cell? _ _ ((blk_cell BK5D.out 0).trans rfl : _ = some (.int .i64 R6.f0)))).trans ((blk_cell BK5D.out 0).trans rfl), ((below_alloc (Below.refl _ _) _).cell (World.block_lt_of_cell? _ _ ((blk_cell BK5D.out 1).trans rfl : _ = some (.int .i64 R6.f1)))).trans ((blk_cell BK5D.out 1).trans rfl), ((below_alloc (Below.refl _ _) _).cell (World.block_lt_of_cell? _ _ ((blk_cell BK5D.out 2).trans rfl : _ = some (.slice AD R6.f2.length cD)))).trans ((blk_cell BK5D.out 2).trans rfl)⟩ (fun hHeld => ?_)
      clear hK K
      refine norm_ (a' := ?_) ?_ ?_
      rotate_left
      · show Act.put _ (some 31) _ = _
        simp only [Act.put, List.setIfInBounds_toArray, List.set_cons_zero, List.set_cons_succ, i64_w, i32_w]
        rfl
      refine last_ (i := 10) (N := some 32) #[true, true, true, true, true, true, true, true, true, true, true, false] rfl rfl (by kernel_rfl) (by decide) (fun K hK => ?_)
      refine Kd.R_append_step k58 (w0 := w6) w6.heap.size (by rfl) (.tmp 22) (.tmp 31) 44 58 (.agg #[.int .i64 0, .int .i64 0, .slice none 0 0]) 40 rfl Try.underlying44 infoRaw rfl (by decide) (by omega) u3 (l6.take x) R6 [.int .i64 R6.f0, .int .i64 R6.f1, .slice BD R6.f2.length dD] (fun k => w6.heap.size ≤ k) (fun k => w6.heap.size ≤ k ∧ some k ≠ u3.ownBlock) rfl rfl ?aP (fun _ hk => hk) (fun _ hk => Nat.le_trans HBD.out.size hk) ?aO ?aB ?aS ?aL ?_
      (case aP => exact k58_mkM _ _ _ R6 HMD.out)
      (case aO => exact HND.out)
      (case aB => exact HBD.out)
      (case aS => exact HBD.out.size)
      (case aL => have := H6.out; have := List.length_take_le x l6; have := HQ.out; omega)
      intro v9 w9 ho9 hb9 hg9 hat9
      have HN9 := Aside0.mk ho9
      have HB9 := Aside0.mk hb9
      clear ho9 hb9 hg9 hat9
      refine hK.out _ _ ?_
      clear hK K
      refine norm_ (a' := ?_) ?_ ?_
      rotate_left
      · show Act.put _ (some 32) _ = _
        simp only [Act.put, List.setIfInBounds_toArray, List.set_cons_zero, List.set_cons_succ, i64_w, i32_w]
        rfl
      refine pure_ (i := 11) (N := some 3) (v := ?_) (a' := ?_) #[true, true, true, true, true, true, true, true, true, true, true, true] rfl rfl (by kernel_rfl) (fun _ _ _ h => h) (Or.inl ⟨by rfl, ?_⟩) ?_ ?_
      rotate_left
      · intro w'
        go_simp
        with_reducible rfl
      rotate_left
      · simp only [Act.put, List.setIfInBounds_toArray, List.set_cons_zero, List.set_cons_succ, i64_w, i32_w]
        rfl
      refine done_ (by kernel_rfl) ?_
      go_wp2
      go_roundg k1
      case measure => omega
      case rel =>
        refine ⟨x + 1, ?ii, ⟨by have := HM.out; omega, by have := HQ.out; omega⟩, ⟨by rw [HTK.out]; exact HN9.out⟩, HB9⟩
        case ii =>
          have hw : wrap64 ((x : Nat) + 1 : Int) = ((x + 1 : Nat) : Int) := by
            have := HQ.out
            have := H6.out
            unfold wrap64
            omega
          first | rfl | (simp [hw]; done) | (rw [hw])
    · have c4b0 : decide (((x : Nat) : Int) < (l6.length : Int)) = false := decide_eq_false (by omega)
      have HN2 := Aside0.mk (show Kd.R k58 58 wr w6.heap.size (fun k => w6.heap.size ≤ k) u3 l6 from by
        have hN := HN.out
        rw [List.take_of_length_le (by omega)] at hN
        exact hN)
      obtain ⟨BL, dL, eL⟩ := Kd.R_slice HN2.out
      subst eL
      have hlL := (Kd.R_reads' HN2.out).2.1
      have HLE6 := Aside0.mk HB6.out.size
      have HBA := Aside0.mk (HB6.out.trans (HBL.out.mono HB6.out.size))
      have BK1A := Aside0.mk ((HBL.out.block g1 (blk_lt BK16.out)).trans BK16.out)
      have BK2A := Aside0.mk ((HBL.out.block g2 (blk_lt BK26.out)).trans BK26.out)
      have HF1A := Aside0.mk (Kd.R_below HF16.out HBL.out)
      have HF5A := Aside0.mk (Kd.R_below HF56.out HBL.out)
      have HFLA := Aside0.mk (Kd.R_mono (ok' := fun k => g2 < k) HN2.out (fun k hk => Nat.lt_of_lt_of_le (blk_lt BK26.out) hk))
      clear HN HN2 HBL BK16 BK26 HF16 HF56 HB6
      go_wp2_with (first | ((with_reducible refine gate_callee (f := 68) rfl ?_); refine goesL_ (some 35) rfl rfl Try.func68 (by kernel_rfl) rfl #[.slice BL l6.length dL] rfl (by (try simp only [List.map_toArray, List.map_cons, List.map_nil]); first | done | rfl) ?_; refine (clip_raw BL l6.length dL _ hlL).mono ?_; rintro e wc ⟨rfl, hb⟩; refine ⟨_, rfl, ?_⟩; have HBC := Aside0.mk (below_step HBA.out hb); have BK1C := Aside0.mk ((hb.block g1 (blk_lt BK1A.out)).trans BK1A.out); have BK2C := Aside0.mk ((hb.block g2 (blk_lt BK2A.out)).trans BK2A.out); have HF1C := Aside0.mk (Kd.R_below HF1A.out hb); have HF5C := Aside0.mk (Kd.R_below HF5A.out hb); have HFLC := Aside0.mk (Kd.R_below HFLA.out hb); clear hb; have hcz1_0 : wc.cell? ⟨g1, 0, none⟩ = some (.int .i64 o) := (blk_cell BK1C.out 0).trans rfl; have hfz1_0 := blk_frozen BK1C.out 0; have hcz1_1 : wc.cell? ⟨g1, 1, none⟩ = some (.slice B1 l1.length d1) := (blk_cell BK1C.out 1).trans rfl; have hfz1_1 := blk_frozen BK1C.out 1; have hcz1_2 : wc.cell? ⟨g1, 2, none⟩ = some (.int .u32 nx) := (blk_cell BK1C.out 2).trans rfl; have hfz1_2 := blk_frozen BK1C.out 2; have hcz1_3 : wc.cell? ⟨g1, 3, none⟩ = some (.int .i64 md) := (blk_cell BK1C.out 3).trans rfl; have hfz1_3 := blk_frozen BK1C.out 3; have hcz1_4 : wc.cell? ⟨g1, 4, none⟩ = some (.int .i64 pr) := (blk_cell BK1C.out 4).trans rfl; have hfz1_4 := blk_frozen BK1C.out 4; have hcz1_5 : wc.cell? ⟨g1, 5, none⟩ = some (.slice B5 l5.length l5.length) := (blk_cell BK1C.out 5).trans rfl; have hfz1_5 := blk_frozen BK1C.out 5; have hcz1_6 : wc.cell? ⟨g1, 6, none⟩ = some (.slice A6 l6.length c6) := (blk_cell BK1C.out 6).trans rfl; have hfz1_6 := blk_frozen BK1C.out 6; have hcz2_0 : wc.cell? ⟨g2, 0, none⟩ = some (.int .i64 0) := (blk_cell BK2C.out 0).trans rfl; have hfz2_0 := blk_frozen BK2C.out 0; have hcz2_1 : wc.cell? ⟨g2, 1, none⟩ = some (.slice none 0 0) := (blk_cell BK2C.out 1).trans rfl; have hfz2_1 := blk_frozen BK2C.out 1; have hcz2_2 : wc.cell? ⟨g2, 2, none⟩ = some (.int .u32 0) := (blk_cell BK2C.out 2).trans rfl; have hfz2_2 := blk_frozen BK2C.out 2; have hcz2_3 : wc.cell? ⟨g2, 3, none⟩ = some (.int .i64 0) := (blk_cell BK2C.out 3).trans rfl; have hfz2_3 := blk_frozen BK2C.out 3; have hcz2_4 : wc.cell? ⟨g2, 4, none⟩ = some (.int .i64 0) := (blk_cell BK2C.out 4).trans rfl; have hfz2_4 := blk_frozen BK2C.out 4; have hcz2_5 : wc.cell? ⟨g2, 5, none⟩ = some (.slice none 0 0) := (blk_cell BK2C.out 5).trans rfl; have hfz2_5 := blk_frozen BK2C.out 5; have hcz2_6 : wc.cell? ⟨g2, 6, none⟩ = some (.slice none 0 0) := (blk_cell BK2C.out 6).trans rfl; have hfz2_6 := blk_frozen BK2C.out 6; have hne12 : g1 ≠ g2 := (by have := GE2.out; omega); have hne21 : g2 ≠ g1 := (by have := GE2.out; omega)))
      have BKF := Aside0.mk (show ((((((((wc.setCell ⟨g1, 6, none⟩ (.slice BL l6.length l6.length)).setCell ⟨g2, 0, none⟩ (.int .i64 o)).setCell ⟨g2, 1, none⟩ (.slice B1 l1.length d1)).setCell ⟨g2, 2, none⟩ (.int .u32 nx)).setCell ⟨g2, 3, none⟩ (.int .i64 md)).setCell ⟨g2, 4, none⟩ (.int .i64 pr)).setCell ⟨g2, 5, none⟩ (.slice B5 l5.length l5.length)).setCell ⟨g2, 6, none⟩ (.slice BL l6.length l6.length)).heap[g2]? = some (.cells #[.int .i64 o, .slice B1 l1.length d1, .int .u32 nx, .int .i64 md, .int .i64 pr, .slice B5 l5.length l5.length, .slice BL l6.length l6.length] 46 (0, 0)) from by refine blk_put (cs := #[.int .i64 o, .slice B1 l1.length d1, .int .u32 nx, .int .i64 md, .int .i64 pr, .slice B5 l5.length l5.length, .slice none 0 0]) ?_ 6 _ rfl; refine blk_put (cs := #[.int .i64 o, .slice B1 l1.length d1, .int .u32 nx, .int .i64 md, .int .i64 pr, .slice none 0 0, .slice none 0 0]) ?_ 5 _ rfl; refine blk_put (cs := #[.int .i64 o, .slice B1 l1.length d1, .int .u32 nx, .int .i64 md, .int .i64 0, .slice none 0 0, .slice none 0 0]) ?_ 4 _ rfl; refine blk_put (cs := #[.int .i64 o, .slice B1 l1.length d1, .int .u32 nx, .int .i64 0, .int .i64 0, .slice none 0 0, .slice none 0 0]) ?_ 3 _ rfl; refine blk_put (cs := #[.int .i64 o, .slice B1 l1.length d1, .int .u32 0, .int .i64 0, .int .i64 0, .slice none 0 0, .slice none 0 0]) ?_ 2 _ rfl; refine blk_put (cs := #[.int .i64 o, .slice none 0 0, .int .u32 0, .int .i64 0, .int .i64 0, .slice none 0 0, .slice none 0 0]) ?_ 1 _ rfl; refine blk_put (cs := #[.int .i64 0, .slice none 0 0, .int .u32 0, .int .i64 0, .int .i64 0, .slice none 0 0, .slice none 0 0]) ?_ 0 _ rfl; refine blk_far ?_ (show g2 ≠ g1 from by have := GE2.out; omega) _; exact BK2C.out)
      have HE1 := Aside0.mk (Kd.R_mono (ok' := fun k => w.heap.size ≤ k) (Kd.R_lower (base' := w.heap.size) (Kd.R_far (p := ⟨g2, 6, none⟩) (Kd.R_far (p := ⟨g2, 5, none⟩) (Kd.R_far (p := ⟨g2, 4, none⟩) (Kd.R_far (p := ⟨g2, 3, none⟩) (Kd.R_far (p := ⟨g2, 2, none⟩) (Kd.R_far (p := ⟨g2, 1, none⟩) (Kd.R_far (p := ⟨g2, 0, none⟩) (Kd.R_far (p := ⟨g1, 6, none⟩) (HF1C.out) (fun k hk => by have := GE2.out; show k ≠ g1; omega) (.slice BL l6.length l6.length)) (fun k hk => by show k ≠ g2; omega) (.int .i64 o)) (fun k hk => by show k ≠ g2; omega) (.slice B1 l1.length d1)) (fun k hk => by show k ≠ g2; omega) (.int .u32 nx)) (fun k hk => by show k ≠ g2; omega) (.int .i64 md)) (fun k hk => by show k ≠ g2; omega) (.int .i64 pr)) (fun k hk => by show k ≠ g2; omega) (.slice B5 l5.length l5.length)) (fun k hk => by show k ≠ g2; omega) (.slice BL l6.length l6.length)) (by have := GE1.out; have := GE2.out; omega)) (fun k hk => by have := GE1.out; have := GE2.out; omega))
      have HE5 := Aside0.mk (Kd.R_mono (ok' := fun k => w.heap.size ≤ k) (Kd.R_lower (base' := w.heap.size) (Kd.R_far (p := ⟨g2, 6, none⟩) (Kd.R_far (p := ⟨g2, 5, none⟩) (Kd.R_far (p := ⟨g2, 4, none⟩) (Kd.R_far (p := ⟨g2, 3, none⟩) (Kd.R_far (p := ⟨g2, 2, none⟩) (Kd.R_far (p := ⟨g2, 1, none⟩) (Kd.R_far (p := ⟨g2, 0, none⟩) (Kd.R_far (p := ⟨g1, 6, none⟩) (HF5C.out) (fun k hk => by have := GE2.out; show k ≠ g1; omega) (.slice BL l6.length l6.length)) (fun k hk => by show k ≠ g2; omega) (.int .i64 o)) (fun k hk => by show k ≠ g2; omega) (.slice B1 l1.length d1)) (fun k hk => by show k ≠ g2; omega) (.int .u32 nx)) (fun k hk => by show k ≠ g2; omega) (.int .i64 md)) (fun k hk => by show k ≠ g2; omega) (.int .i64 pr)) (fun k hk => by show k ≠ g2; omega) (.slice B5 l5.length l5.length)) (fun k hk => by show k ≠ g2; omega) (.slice BL l6.length l6.length)) (by have := GE1.out; have := GE2.out; omega)) (fun k hk => by have := GE1.out; have := GE2.out; omega))
      have HE6 := Aside0.mk (Kd.R_mono (ok' := fun k => w.heap.size ≤ k) (Kd.R_lower (base' := w.heap.size) (Kd.R_far (p := ⟨g2, 6, none⟩) (Kd.R_far (p := ⟨g2, 5, none⟩) (Kd.R_far (p := ⟨g2, 4, none⟩) (Kd.R_far (p := ⟨g2, 3, none⟩) (Kd.R_far (p := ⟨g2, 2, none⟩) (Kd.R_far (p := ⟨g2, 1, none⟩) (Kd.R_far (p := ⟨g2, 0, none⟩) (Kd.R_far (p := ⟨g1, 6, none⟩) (HFLC.out) (fun k hk => by have := GE2.out; show k ≠ g1; omega) (.slice BL l6.length l6.length)) (fun k hk => by show k ≠ g2; omega) (.int .i64 o)) (fun k hk => by show k ≠ g2; omega) (.slice B1 l1.length d1)) (fun k hk => by show k ≠ g2; omega) (.int .u32 nx)) (fun k hk => by show k ≠ g2; omega) (.int .i64 md)) (fun k hk => by show k ≠ g2; omega) (.int .i64 pr)) (fun k hk => by show k ≠ g2; omega) (.slice B5 l5.length l5.length)) (fun k hk => by show k ≠ g2; omega) (.slice BL l6.length l6.length)) HLE6.out) (fun k hk => by have := GE1.out; have := GE2.out; omega))
      have HEB := Aside0.mk (Below.setCell (p := ⟨g2, 6, none⟩) (Below.setCell (p := ⟨g2, 5, none⟩) (Below.setCell (p := ⟨g2, 4, none⟩) (Below.setCell (p := ⟨g2, 3, none⟩) (Below.setCell (p := ⟨g2, 2, none⟩) (Below.setCell (p := ⟨g2, 1, none⟩) (Below.setCell (p := ⟨g2, 0, none⟩) (Below.setCell (p := ⟨g1, 6, none⟩) (HBC.out) GE1.out (.slice BL l6.length l6.length)) (show w.heap.size ≤ g2 from by have := GE1.out; have := GE2.out; omega) (.int .i64 o)) (show w.heap.size ≤ g2 from by have := GE1.out; have := GE2.out; omega) (.slice B1 l1.length d1)) (show w.heap.size ≤ g2 from by have := GE1.out; have := GE2.out; omega) (.int .u32 nx)) (show w.heap.size ≤ g2 from by have := GE1.out; have := GE2.out; omega) (.int .i64 md)) (show w.heap.size ≤ g2 from by have := GE1.out; have := GE2.out; omega) (.int .i64 pr)) (show w.heap.size ≤ g2 from by have := GE1.out; have := GE2.out; omega) (.slice B5 l5.length l5.length)) (show w.heap.size ≤ g2 from by have := GE1.out; have := GE2.out; omega) (.slice BL l6.length l6.length))
      generalize ((((((((wc.setCell ⟨g1, 6, none⟩ (.slice BL l6.length l6.length)).setCell ⟨g2, 0, none⟩ (.int .i64 o)).setCell ⟨g2, 1, none⟩ (.slice B1 l1.length d1)).setCell ⟨g2, 2, none⟩ (.int .u32 nx)).setCell ⟨g2, 3, none⟩ (.int .i64 md)).setCell ⟨g2, 4, none⟩ (.int .i64 pr)).setCell ⟨g2, 5, none⟩ (.slice B5 l5.length l5.length)).setCell ⟨g2, 6, none⟩ (.slice BL l6.length l6.length)) = wF at BKF HE1 HE5 HE6 HEB ⊢
      refine bodyPost_ret (results_cell_row rfl _ _ g2 46 #[.int .i64 o, .slice B1 l1.length d1, .int .u32 nx, .int .i64 md, .int .i64 pr, .slice B5 l5.length l5.length, .slice BL l6.length l6.length] (0, 0) _ rfl BKF.out Try.underlying46 rfl (by kernel_rfl)) rfl ?_
      exact ⟨B1, d1, d1', B5, d5, BL, dL, rfl, HL1.out, HE1.out, HE5.out, HE6.out, HEB.out⟩
set_option maxHeartbeats 4000000 in
set_option maxRecDepth 100000 in
theorem route_own (pa pl pe o : Int) (A1 : Option Addr) (c1 : Nat) (l1 : List S38) (nx md pr : Int) (A5 : Option Addr) (c5 : Nat) (l5 : List Int) (A6 : Option Addr) (c6 : Nat) (l6 : List S58) (st : Int) (w : World)
    (hr1 : Kd.C k38 w A1 l1.length l1) (hc1 : l1.length ≤ c1) (hr5 : Kd.C (Kd.int .u32) w A5 l5.length l5) (hc5 : l5.length ≤ c5) (hr6 : Kd.C k58 w A6 l6.length l6) (hc6 : l6.length ≤ c6) (h4 : l1.length < 4000) (hd1 : ∀ y ∈ l1, slices_Clone_int_int.f y.f1 = some y.f1) (h5 : slices_Clone_uint32_uint32.f l5 = some l5) (h6 : l6.length < 4000) (hd : ∀ r ∈ l6, bytes_Clone.f r.f2 = some r.f2) :
    Calls Try.prog 37 #[.agg #[.int .u32 pa, .int .i64 pl, .int .i64 pe, .int .i64 o, .slice A1 l1.length c1, .int .u32 nx, .int .i64 md, .int .i64 pr, .slice A5 l5.length c5, .slice A6 l6.length c6, .int .i64 st]] w fun e w' => ∃ B1 d1 d1' B5 d5' B6 d6', e = .returned (.agg #[.int .u32 pa, .int .i64 pl, .int .i64 pe, .int .i64 o, .slice B1 l1.length d1, .int .u32 nx, .int .i64 md, .int .i64 pr, .slice B5 l5.length l5.length, .slice B6 l6.length l6.length, .int .i64 st]) ∧ l1.length ≤ d1 ∧ Kd.R kc38 38 w' w.heap.size (fun k => w.heap.size ≤ k) (.slice B1 l1.length d1') l1 ∧ Kd.R (Kd.int .u32) 40 w' w.heap.size (fun k => w.heap.size ≤ k) (.slice B5 l5.length d5') l5 ∧ Kd.R k58 58 w' w.heap.size (fun k => w.heap.size ≤ k) (.slice B6 l6.length d6') l6 ∧ Below w.heap.size w w' := by
  have HR1 := Aside0.mk hr1
  have HR5 := Aside0.mk hr5
  have HR6 := Aside0.mk hr6
  have HC := Aside0.mk (And.intro hc1 (And.intro hc5 hc6))
  have H4 := Aside0.mk h4
  have HD1 := Aside0.mk hd1
  have H5 := Aside0.mk h5
  have H6 := Aside0.mk h6
  have HD := Aside0.mk hd
  have hu46 := Try.underlying46
  have hu48 := Try.underlying48
  have HB := Aside0.mk (Below.refl w.heap.size w)
  clear hr1 hc1 hr5 hc5 hr6 hc6 h4 hd1 h5 h6 hd
  go_enter Try.func37, Try.ntmps37
  go_wp2_with (first | ((with_reducible refine gate_dst (N := 1) rfl ?_); refine box_event ?hg (N := 1) ?hd (cs := #[.int .u32 pa, .int .i64 pl, .int .i64 pe, .int .i64 o, .slice A1 l1.length c1, .int .u32 nx, .int .i64 md, .int .i64 pr, .slice A5 l5.length c5, .slice A6 l6.length c6, .int .i64 st]) (t := 48) ?hr ?_; (case hd => rfl); (case hg => rfl); (case hr => first | (go_simp; done) | (go_simp; rfl)); intro g1 hg w1 hbox hb; have HB1 := Aside0.mk (below_step HB.out hb); have BK11 := Aside0.mk hbox; have GE1 := Aside0.mk (show w.heap.size ≤ g1 from by rw [hg]; exact Nat.le_refl _); clear hbox hb hg) | ((with_reducible refine gate_dst (N := 2) rfl ?_); refine box_event ?hg (N := 2) ?hd (cs := #[.int .u32 0, .int .i64 0, .int .i64 0, .int .i64 0, .slice none 0 0, .int .u32 0, .int .i64 0, .int .i64 0, .slice none 0 0, .slice none 0 0, .int .i64 0]) (t := 48) ?hr ?_; (case hd => rfl); (case hg => rfl); (case hr => first | (go_simp; done) | (go_simp; rfl)); intro g2 hg w2 hbox hb; have HB2 := Aside0.mk (below_step HB1.out hb); have BK1 := Aside0.mk (show w2.heap[g1]? = _ from (hb.block _ (blk_lt BK11.out)).trans BK11.out); have BK2 := Aside0.mk hbox; have GE2 := Aside0.mk (show g1 < g2 from by rw [hg]; exact blk_lt BK11.out); clear BK11; have hcz1_0 : w2.cell? ⟨g1, 0, none⟩ = some (.int .u32 pa) := (blk_cell BK1.out 0).trans rfl; have hfz1_0 := blk_frozen BK1.out 0; have hcz1_1 : w2.cell? ⟨g1, 1, none⟩ = some (.int .i64 pl) := (blk_cell BK1.out 1).trans rfl; have hfz1_1 := blk_frozen BK1.out 1; have hcz1_2 : w2.cell? ⟨g1, 2, none⟩ = some (.int .i64 pe) := (blk_cell BK1.out 2).trans rfl; have hfz1_2 := blk_frozen BK1.out 2; have hcz1_3 : w2.cell? ⟨g1, 3, none⟩ = some (.int .i64 o) := (blk_cell BK1.out 3).trans rfl; have hfz1_3 := blk_frozen BK1.out 3; have hcz1_4 : w2.cell? ⟨g1, 4, none⟩ = some (.slice A1 l1.length c1) := (blk_cell BK1.out 4).trans rfl; have hfz1_4 := blk_frozen BK1.out 4; have hcz1_5 : w2.cell? ⟨g1, 5, none⟩ = some (.int .u32 nx) := (blk_cell BK1.out 5).trans rfl; have hfz1_5 := blk_frozen BK1.out 5; have hcz1_6 : w2.cell? ⟨g1, 6, none⟩ = some (.int .i64 md) := (blk_cell BK1.out 6).trans rfl; have hfz1_6 := blk_frozen BK1.out 6; have hcz1_7 : w2.cell? ⟨g1, 7, none⟩ = some (.int .i64 pr) := (blk_cell BK1.out 7).trans rfl; have hfz1_7 := blk_frozen BK1.out 7; have hcz1_8 : w2.cell? ⟨g1, 8, none⟩ = some (.slice A5 l5.length c5) := (blk_cell BK1.out 8).trans rfl; have hfz1_8 := blk_frozen BK1.out 8; have hcz1_9 : w2.cell? ⟨g1, 9, none⟩ = some (.slice A6 l6.length c6) := (blk_cell BK1.out 9).trans rfl; have hfz1_9 := blk_frozen BK1.out 9; have hcz1_10 : w2.cell? ⟨g1, 10, none⟩ = some (.int .i64 st) := (blk_cell BK1.out 10).trans rfl; have hfz1_10 := blk_frozen BK1.out 10; clear hbox hb hg) | ((with_reducible refine gate_callee (f := 54) rfl ?_); refine goesL_ (some 5) rfl rfl Try.func54 (by kernel_rfl) rfl #[.agg #[.int .i64 o, .slice A1 l1.length c1, .int .u32 nx, .int .i64 md, .int .i64 pr, .slice A5 l5.length c5, .slice A6 l6.length c6]] rfl (by (try simp only [List.map_toArray, List.map_cons, List.map_nil]); first | done | rfl) ?_; refine (attr_own o A1 c1 l1 nx md pr A5 c5 l5 A6 c6 l6 _ (Kd.C_below HR1.out HB2.out) HC.out.1 (Kd.C_below HR5.out HB2.out) HC.out.2.1 (Kd.C_below HR6.out HB2.out) HC.out.2.2 H4.out HD1.out H5.out H6.out HD.out).mono ?_; rintro e w5 ⟨B1, d1, d1', B5, d5', B6, d6', rfl, hl1, hq1, hq5, hq6, hb⟩; refine ⟨_, rfl, ?_⟩; have HL1 := Aside0.mk hl1; have HQ1 := Aside0.mk hq1; have HQ5 := Aside0.mk hq5; have HQ6 := Aside0.mk hq6; have HB5 := Aside0.mk (below_step HB2.out hb); have BK1C := Aside0.mk ((hb.block g1 (blk_lt BK1.out)).trans BK1.out); have BK2C := Aside0.mk ((hb.block g2 (blk_lt BK2.out)).trans BK2.out); have HGT := Aside0.mk (show g2 < _ from blk_lt BK2.out); clear hl1 hq1 hq5 hq6 hb hcz1_0 hfz1_0 hcz1_1 hfz1_1 hcz1_2 hfz1_2 hcz1_3 hfz1_3 hcz1_4 hfz1_4 hcz1_5 hfz1_5 hcz1_6 hfz1_6 hcz1_7 hfz1_7 hcz1_8 hfz1_8 hcz1_9 hfz1_9 hcz1_10 hfz1_10; have hcz3_0 : w5.cell? ⟨g1, 0, none⟩ = some (.int .u32 pa) := (blk_cell BK1C.out 0).trans rfl; have hfz3_0 := blk_frozen BK1C.out 0; have hcz3_1 : w5.cell? ⟨g1, 1, none⟩ = some (.int .i64 pl) := (blk_cell BK1C.out 1).trans rfl; have hfz3_1 := blk_frozen BK1C.out 1; have hcz3_2 : w5.cell? ⟨g1, 2, none⟩ = some (.int .i64 pe) := (blk_cell BK1C.out 2).trans rfl; have hfz3_2 := blk_frozen BK1C.out 2; have hcz3_3 : w5.cell? ⟨g1, 3, none⟩ = some (.int .i64 o) := (blk_cell BK1C.out 3).trans rfl; have hfz3_3 := blk_frozen BK1C.out 3; have hcz3_4 : w5.cell? ⟨g1, 4, none⟩ = some (.slice A1 l1.length c1) := (blk_cell BK1C.out 4).trans rfl; have hfz3_4 := blk_frozen BK1C.out 4; have hcz3_5 : w5.cell? ⟨g1, 5, none⟩ = some (.int .u32 nx) := (blk_cell BK1C.out 5).trans rfl; have hfz3_5 := blk_frozen BK1C.out 5; have hcz3_6 : w5.cell? ⟨g1, 6, none⟩ = some (.int .i64 md) := (blk_cell BK1C.out 6).trans rfl; have hfz3_6 := blk_frozen BK1C.out 6; have hcz3_7 : w5.cell? ⟨g1, 7, none⟩ = some (.int .i64 pr) := (blk_cell BK1C.out 7).trans rfl; have hfz3_7 := blk_frozen BK1C.out 7; have hcz3_8 : w5.cell? ⟨g1, 8, none⟩ = some (.slice A5 l5.length c5) := (blk_cell BK1C.out 8).trans rfl; have hfz3_8 := blk_frozen BK1C.out 8; have hcz3_9 : w5.cell? ⟨g1, 9, none⟩ = some (.slice A6 l6.length c6) := (blk_cell BK1C.out 9).trans rfl; have hfz3_9 := blk_frozen BK1C.out 9; have hcz3_10 : w5.cell? ⟨g1, 10, none⟩ = some (.int .i64 st) := (blk_cell BK1C.out 10).trans rfl; have hfz3_10 := blk_frozen BK1C.out 10; have hcz4_0 : w5.cell? ⟨g2, 0, none⟩ = some (.int .u32 0) := (blk_cell BK2C.out 0).trans rfl; have hfz4_0 := blk_frozen BK2C.out 0; have hcz4_1 : w5.cell? ⟨g2, 1, none⟩ = some (.int .i64 0) := (blk_cell BK2C.out 1).trans rfl; have hfz4_1 := blk_frozen BK2C.out 1; have hcz4_2 : w5.cell? ⟨g2, 2, none⟩ = some (.int .i64 0) := (blk_cell BK2C.out 2).trans rfl; have hfz4_2 := blk_frozen BK2C.out 2; have hcz4_3 : w5.cell? ⟨g2, 3, none⟩ = some (.int .i64 0) := (blk_cell BK2C.out 3).trans rfl; have hfz4_3 := blk_frozen BK2C.out 3; have hcz4_4 : w5.cell? ⟨g2, 4, none⟩ = some (.slice none 0 0) := (blk_cell BK2C.out 4).trans rfl; have hfz4_4 := blk_frozen BK2C.out 4; have hcz4_5 : w5.cell? ⟨g2, 5, none⟩ = some (.int .u32 0) := (blk_cell BK2C.out 5).trans rfl; have hfz4_5 := blk_frozen BK2C.out 5; have hcz4_6 : w5.cell? ⟨g2, 6, none⟩ = some (.int .i64 0) := (blk_cell BK2C.out 6).trans rfl; have hfz4_6 := blk_frozen BK2C.out 6; have hcz4_7 : w5.cell? ⟨g2, 7, none⟩ = some (.int .i64 0) := (blk_cell BK2C.out 7).trans rfl; have hfz4_7 := blk_frozen BK2C.out 7; have hcz4_8 : w5.cell? ⟨g2, 8, none⟩ = some (.slice none 0 0) := (blk_cell BK2C.out 8).trans rfl; have hfz4_8 := blk_frozen BK2C.out 8; have hcz4_9 : w5.cell? ⟨g2, 9, none⟩ = some (.slice none 0 0) := (blk_cell BK2C.out 9).trans rfl; have hfz4_9 := blk_frozen BK2C.out 9; have hcz4_10 : w5.cell? ⟨g2, 10, none⟩ = some (.int .i64 0) := (blk_cell BK2C.out 10).trans rfl; have hfz4_10 := blk_frozen BK2C.out 10; have hne12 : g1 ≠ g2 := (by have := GE2.out; omega); have hne21 : g2 ≠ g1 := (by have := GE2.out; omega)))
  have BKF := Aside0.mk (show ((((((((((((((((((w5.setCell ⟨g1, 3, none⟩ (.int .i64 o)).setCell ⟨g1, 4, none⟩ (.slice B1 l1.length d1)).setCell ⟨g1, 5, none⟩ (.int .u32 nx)).setCell ⟨g1, 6, none⟩ (.int .i64 md)).setCell ⟨g1, 7, none⟩ (.int .i64 pr)).setCell ⟨g1, 8, none⟩ (.slice B5 l5.length l5.length)).setCell ⟨g1, 9, none⟩ (.slice B6 l6.length l6.length)).setCell ⟨g2, 0, none⟩ (.int .u32 pa)).setCell ⟨g2, 1, none⟩ (.int .i64 pl)).setCell ⟨g2, 2, none⟩ (.int .i64 pe)).setCell ⟨g2, 3, none⟩ (.int .i64 o)).setCell ⟨g2, 4, none⟩ (.slice B1 l1.length d1)).setCell ⟨g2, 5, none⟩ (.int .u32 nx)).setCell ⟨g2, 6, none⟩ (.int .i64 md)).setCell ⟨g2, 7, none⟩ (.int .i64 pr)).setCell ⟨g2, 8, none⟩ (.slice B5 l5.length l5.length)).setCell ⟨g2, 9, none⟩ (.slice B6 l6.length l6.length)).setCell ⟨g2, 10, none⟩ (.int .i64 st)).heap[g2]? = some (.cells #[.int .u32 pa, .int .i64 pl, .int .i64 pe, .int .i64 o, .slice B1 l1.length d1, .int .u32 nx, .int .i64 md, .int .i64 pr, .slice B5 l5.length l5.length, .slice B6 l6.length l6.length, .int .i64 st] 48 (0, 0)) from by refine blk_put (cs := #[.int .u32 pa, .int .i64 pl, .int .i64 pe, .int .i64 o, .slice B1 l1.length d1, .int .u32 nx, .int .i64 md, .int .i64 pr, .slice B5 l5.length l5.length, .slice B6 l6.length l6.length, .int .i64 0]) ?_ 10 _ rfl; refine blk_put (cs := #[.int .u32 pa, .int .i64 pl, .int .i64 pe, .int .i64 o, .slice B1 l1.length d1, .int .u32 nx, .int .i64 md, .int .i64 pr, .slice B5 l5.length l5.length, .slice none 0 0, .int .i64 0]) ?_ 9 _ rfl; refine blk_put (cs := #[.int .u32 pa, .int .i64 pl, .int .i64 pe, .int .i64 o, .slice B1 l1.length d1, .int .u32 nx, .int .i64 md, .int .i64 pr, .slice none 0 0, .slice none 0 0, .int .i64 0]) ?_ 8 _ rfl; refine blk_put (cs := #[.int .u32 pa, .int .i64 pl, .int .i64 pe, .int .i64 o, .slice B1 l1.length d1, .int .u32 nx, .int .i64 md, .int .i64 0, .slice none 0 0, .slice none 0 0, .int .i64 0]) ?_ 7 _ rfl; refine blk_put (cs := #[.int .u32 pa, .int .i64 pl, .int .i64 pe, .int .i64 o, .slice B1 l1.length d1, .int .u32 nx, .int .i64 0, .int .i64 0, .slice none 0 0, .slice none 0 0, .int .i64 0]) ?_ 6 _ rfl; refine blk_put (cs := #[.int .u32 pa, .int .i64 pl, .int .i64 pe, .int .i64 o, .slice B1 l1.length d1, .int .u32 0, .int .i64 0, .int .i64 0, .slice none 0 0, .slice none 0 0, .int .i64 0]) ?_ 5 _ rfl; refine blk_put (cs := #[.int .u32 pa, .int .i64 pl, .int .i64 pe, .int .i64 o, .slice none 0 0, .int .u32 0, .int .i64 0, .int .i64 0, .slice none 0 0, .slice none 0 0, .int .i64 0]) ?_ 4 _ rfl; refine blk_put (cs := #[.int .u32 pa, .int .i64 pl, .int .i64 pe, .int .i64 0, .slice none 0 0, .int .u32 0, .int .i64 0, .int .i64 0, .slice none 0 0, .slice none 0 0, .int .i64 0]) ?_ 3 _ rfl; refine blk_put (cs := #[.int .u32 pa, .int .i64 pl, .int .i64 0, .int .i64 0, .slice none 0 0, .int .u32 0, .int .i64 0, .int .i64 0, .slice none 0 0, .slice none 0 0, .int .i64 0]) ?_ 2 _ rfl; refine blk_put (cs := #[.int .u32 pa, .int .i64 0, .int .i64 0, .int .i64 0, .slice none 0 0, .int .u32 0, .int .i64 0, .int .i64 0, .slice none 0 0, .slice none 0 0, .int .i64 0]) ?_ 1 _ rfl; refine blk_put (cs := #[.int .u32 0, .int .i64 0, .int .i64 0, .int .i64 0, .slice none 0 0, .int .u32 0, .int .i64 0, .int .i64 0, .slice none 0 0, .slice none 0 0, .int .i64 0]) ?_ 0 _ rfl; refine blk_far ?_ (show g2 ≠ g1 from by have := GE2.out; omega) _; refine blk_far ?_ (show g2 ≠ g1 from by have := GE2.out; omega) _; refine blk_far ?_ (show g2 ≠ g1 from by have := GE2.out; omega) _; refine blk_far ?_ (show g2 ≠ g1 from by have := GE2.out; omega) _; refine blk_far ?_ (show g2 ≠ g1 from by have := GE2.out; omega) _; refine blk_far ?_ (show g2 ≠ g1 from by have := GE2.out; omega) _; refine blk_far ?_ (show g2 ≠ g1 from by have := GE2.out; omega) _; exact BK2C.out)
  have HE1 := Aside0.mk (Kd.R_mono (ok' := fun k => w.heap.size ≤ k) (Kd.R_lower (base' := w.heap.size) (Kd.R_far (p := ⟨g2, 10, none⟩) (Kd.R_far (p := ⟨g2, 9, none⟩) (Kd.R_far (p := ⟨g2, 8, none⟩) (Kd.R_far (p := ⟨g2, 7, none⟩) (Kd.R_far (p := ⟨g2, 6, none⟩) (Kd.R_far (p := ⟨g2, 5, none⟩) (Kd.R_far (p := ⟨g2, 4, none⟩) (Kd.R_far (p := ⟨g2, 3, none⟩) (Kd.R_far (p := ⟨g2, 2, none⟩) (Kd.R_far (p := ⟨g2, 1, none⟩) (Kd.R_far (p := ⟨g2, 0, none⟩) (Kd.R_far (p := ⟨g1, 9, none⟩) (Kd.R_far (p := ⟨g1, 8, none⟩) (Kd.R_far (p := ⟨g1, 7, none⟩) (Kd.R_far (p := ⟨g1, 6, none⟩) (Kd.R_far (p := ⟨g1, 5, none⟩) (Kd.R_far (p := ⟨g1, 4, none⟩) (Kd.R_far (p := ⟨g1, 3, none⟩) (HQ1.out) (fun k hk => by have := GE2.out; have := HGT.out; show k ≠ g1; omega) (.int .i64 o)) (fun k hk => by have := GE2.out; have := HGT.out; show k ≠ g1; omega) (.slice B1 l1.length d1)) (fun k hk => by have := GE2.out; have := HGT.out; show k ≠ g1; omega) (.int .u32 nx)) (fun k hk => by have := GE2.out; have := HGT.out; show k ≠ g1; omega) (.int .i64 md)) (fun k hk => by have := GE2.out; have := HGT.out; show k ≠ g1; omega) (.int .i64 pr)) (fun k hk => by have := GE2.out; have := HGT.out; show k ≠ g1; omega) (.slice B5 l5.length l5.length)) (fun k hk => by have := GE2.out; have := HGT.out; show k ≠ g1; omega) (.slice B6 l6.length l6.length)) (fun k hk => by have := HGT.out; show k ≠ g2; omega) (.int .u32 pa)) (fun k hk => by have := HGT.out; show k ≠ g2; omega) (.int .i64 pl)) (fun k hk => by have := HGT.out; show k ≠ g2; omega) (.int .i64 pe)) (fun k hk => by have := HGT.out; show k ≠ g2; omega) (.int .i64 o)) (fun k hk => by have := HGT.out; show k ≠ g2; omega) (.slice B1 l1.length d1)) (fun k hk => by have := HGT.out; show k ≠ g2; omega) (.int .u32 nx)) (fun k hk => by have := HGT.out; show k ≠ g2; omega) (.int .i64 md)) (fun k hk => by have := HGT.out; show k ≠ g2; omega) (.int .i64 pr)) (fun k hk => by have := HGT.out; show k ≠ g2; omega) (.slice B5 l5.length l5.length)) (fun k hk => by have := HGT.out; show k ≠ g2; omega) (.slice B6 l6.length l6.length)) (fun k hk => by have := HGT.out; show k ≠ g2; omega) (.int .i64 st)) (by have := GE1.out; have := GE2.out; have := HGT.out; omega)) (fun k hk => by have := GE1.out; have := GE2.out; have := HGT.out; omega))
  have HE5 := Aside0.mk (Kd.R_mono (ok' := fun k => w.heap.size ≤ k) (Kd.R_lower (base' := w.heap.size) (Kd.R_far (p := ⟨g2, 10, none⟩) (Kd.R_far (p := ⟨g2, 9, none⟩) (Kd.R_far (p := ⟨g2, 8, none⟩) (Kd.R_far (p := ⟨g2, 7, none⟩) (Kd.R_far (p := ⟨g2, 6, none⟩) (Kd.R_far (p := ⟨g2, 5, none⟩) (Kd.R_far (p := ⟨g2, 4, none⟩) (Kd.R_far (p := ⟨g2, 3, none⟩) (Kd.R_far (p := ⟨g2, 2, none⟩) (Kd.R_far (p := ⟨g2, 1, none⟩) (Kd.R_far (p := ⟨g2, 0, none⟩) (Kd.R_far (p := ⟨g1, 9, none⟩) (Kd.R_far (p := ⟨g1, 8, none⟩) (Kd.R_far (p := ⟨g1, 7, none⟩) (Kd.R_far (p := ⟨g1, 6, none⟩) (Kd.R_far (p := ⟨g1, 5, none⟩) (Kd.R_far (p := ⟨g1, 4, none⟩) (Kd.R_far (p := ⟨g1, 3, none⟩) (HQ5.out) (fun k hk => by have := GE2.out; have := HGT.out; show k ≠ g1; omega) (.int .i64 o)) (fun k hk => by have := GE2.out; have := HGT.out; show k ≠ g1; omega) (.slice B1 l1.length d1)) (fun k hk => by have := GE2.out; have := HGT.out; show k ≠ g1; omega) (.int .u32 nx)) (fun k hk => by have := GE2.out; have := HGT.out; show k ≠ g1; omega) (.int .i64 md)) (fun k hk => by have := GE2.out; have := HGT.out; show k ≠ g1; omega) (.int .i64 pr)) (fun k hk => by have := GE2.out; have := HGT.out; show k ≠ g1; omega) (.slice B5 l5.length l5.length)) (fun k hk => by have := GE2.out; have := HGT.out; show k ≠ g1; omega) (.slice B6 l6.length l6.length)) (fun k hk => by have := HGT.out; show k ≠ g2; omega) (.int .u32 pa)) (fun k hk => by have := HGT.out; show k ≠ g2; omega) (.int .i64 pl)) (fun k hk => by have := HGT.out; show k ≠ g2; omega) (.int .i64 pe)) (fun k hk => by have := HGT.out; show k ≠ g2; omega) (.int .i64 o)) (fun k hk => by have := HGT.out; show k ≠ g2; omega) (.slice B1 l1.length d1)) (fun k hk => by have := HGT.out; show k ≠ g2; omega) (.int .u32 nx)) (fun k hk => by have := HGT.out; show k ≠ g2; omega) (.int .i64 md)) (fun k hk => by have := HGT.out; show k ≠ g2; omega) (.int .i64 pr)) (fun k hk => by have := HGT.out; show k ≠ g2; omega) (.slice B5 l5.length l5.length)) (fun k hk => by have := HGT.out; show k ≠ g2; omega) (.slice B6 l6.length l6.length)) (fun k hk => by have := HGT.out; show k ≠ g2; omega) (.int .i64 st)) (by have := GE1.out; have := GE2.out; have := HGT.out; omega)) (fun k hk => by have := GE1.out; have := GE2.out; have := HGT.out; omega))
  have HE6 := Aside0.mk (Kd.R_mono (ok' := fun k => w.heap.size ≤ k) (Kd.R_lower (base' := w.heap.size) (Kd.R_far (p := ⟨g2, 10, none⟩) (Kd.R_far (p := ⟨g2, 9, none⟩) (Kd.R_far (p := ⟨g2, 8, none⟩) (Kd.R_far (p := ⟨g2, 7, none⟩) (Kd.R_far (p := ⟨g2, 6, none⟩) (Kd.R_far (p := ⟨g2, 5, none⟩) (Kd.R_far (p := ⟨g2, 4, none⟩) (Kd.R_far (p := ⟨g2, 3, none⟩) (Kd.R_far (p := ⟨g2, 2, none⟩) (Kd.R_far (p := ⟨g2, 1, none⟩) (Kd.R_far (p := ⟨g2, 0, none⟩) (Kd.R_far (p := ⟨g1, 9, none⟩) (Kd.R_far (p := ⟨g1, 8, none⟩) (Kd.R_far (p := ⟨g1, 7, none⟩) (Kd.R_far (p := ⟨g1, 6, none⟩) (Kd.R_far (p := ⟨g1, 5, none⟩) (Kd.R_far (p := ⟨g1, 4, none⟩) (Kd.R_far (p := ⟨g1, 3, none⟩) (HQ6.out) (fun k hk => by have := GE2.out; have := HGT.out; show k ≠ g1; omega) (.int .i64 o)) (fun k hk => by have := GE2.out; have := HGT.out; show k ≠ g1; omega) (.slice B1 l1.length d1)) (fun k hk => by have := GE2.out; have := HGT.out; show k ≠ g1; omega) (.int .u32 nx)) (fun k hk => by have := GE2.out; have := HGT.out; show k ≠ g1; omega) (.int .i64 md)) (fun k hk => by have := GE2.out; have := HGT.out; show k ≠ g1; omega) (.int .i64 pr)) (fun k hk => by have := GE2.out; have := HGT.out; show k ≠ g1; omega) (.slice B5 l5.length l5.length)) (fun k hk => by have := GE2.out; have := HGT.out; show k ≠ g1; omega) (.slice B6 l6.length l6.length)) (fun k hk => by have := HGT.out; show k ≠ g2; omega) (.int .u32 pa)) (fun k hk => by have := HGT.out; show k ≠ g2; omega) (.int .i64 pl)) (fun k hk => by have := HGT.out; show k ≠ g2; omega) (.int .i64 pe)) (fun k hk => by have := HGT.out; show k ≠ g2; omega) (.int .i64 o)) (fun k hk => by have := HGT.out; show k ≠ g2; omega) (.slice B1 l1.length d1)) (fun k hk => by have := HGT.out; show k ≠ g2; omega) (.int .u32 nx)) (fun k hk => by have := HGT.out; show k ≠ g2; omega) (.int .i64 md)) (fun k hk => by have := HGT.out; show k ≠ g2; omega) (.int .i64 pr)) (fun k hk => by have := HGT.out; show k ≠ g2; omega) (.slice B5 l5.length l5.length)) (fun k hk => by have := HGT.out; show k ≠ g2; omega) (.slice B6 l6.length l6.length)) (fun k hk => by have := HGT.out; show k ≠ g2; omega) (.int .i64 st)) (by have := GE1.out; have := GE2.out; have := HGT.out; omega)) (fun k hk => by have := GE1.out; have := GE2.out; have := HGT.out; omega))
  have HEB := Aside0.mk (Below.setCell (p := ⟨g2, 10, none⟩) (Below.setCell (p := ⟨g2, 9, none⟩) (Below.setCell (p := ⟨g2, 8, none⟩) (Below.setCell (p := ⟨g2, 7, none⟩) (Below.setCell (p := ⟨g2, 6, none⟩) (Below.setCell (p := ⟨g2, 5, none⟩) (Below.setCell (p := ⟨g2, 4, none⟩) (Below.setCell (p := ⟨g2, 3, none⟩) (Below.setCell (p := ⟨g2, 2, none⟩) (Below.setCell (p := ⟨g2, 1, none⟩) (Below.setCell (p := ⟨g2, 0, none⟩) (Below.setCell (p := ⟨g1, 9, none⟩) (Below.setCell (p := ⟨g1, 8, none⟩) (Below.setCell (p := ⟨g1, 7, none⟩) (Below.setCell (p := ⟨g1, 6, none⟩) (Below.setCell (p := ⟨g1, 5, none⟩) (Below.setCell (p := ⟨g1, 4, none⟩) (Below.setCell (p := ⟨g1, 3, none⟩) (HB5.out) GE1.out (.int .i64 o)) GE1.out (.slice B1 l1.length d1)) GE1.out (.int .u32 nx)) GE1.out (.int .i64 md)) GE1.out (.int .i64 pr)) GE1.out (.slice B5 l5.length l5.length)) GE1.out (.slice B6 l6.length l6.length)) (show w.heap.size ≤ g2 from by have := GE1.out; have := GE2.out; omega) (.int .u32 pa)) (show w.heap.size ≤ g2 from by have := GE1.out; have := GE2.out; omega) (.int .i64 pl)) (show w.heap.size ≤ g2 from by have := GE1.out; have := GE2.out; omega) (.int .i64 pe)) (show w.heap.size ≤ g2 from by have := GE1.out; have := GE2.out; omega) (.int .i64 o)) (show w.heap.size ≤ g2 from by have := GE1.out; have := GE2.out; omega) (.slice B1 l1.length d1)) (show w.heap.size ≤ g2 from by have := GE1.out; have := GE2.out; omega) (.int .u32 nx)) (show w.heap.size ≤ g2 from by have := GE1.out; have := GE2.out; omega) (.int .i64 md)) (show w.heap.size ≤ g2 from by have := GE1.out; have := GE2.out; omega) (.int .i64 pr)) (show w.heap.size ≤ g2 from by have := GE1.out; have := GE2.out; omega) (.slice B5 l5.length l5.length)) (show w.heap.size ≤ g2 from by have := GE1.out; have := GE2.out; omega) (.slice B6 l6.length l6.length)) (show w.heap.size ≤ g2 from by have := GE1.out; have := GE2.out; omega) (.int .i64 st))
  generalize ((((((((((((((((((w5.setCell ⟨g1, 3, none⟩ (.int .i64 o)).setCell ⟨g1, 4, none⟩ (.slice B1 l1.length d1)).setCell ⟨g1, 5, none⟩ (.int .u32 nx)).setCell ⟨g1, 6, none⟩ (.int .i64 md)).setCell ⟨g1, 7, none⟩ (.int .i64 pr)).setCell ⟨g1, 8, none⟩ (.slice B5 l5.length l5.length)).setCell ⟨g1, 9, none⟩ (.slice B6 l6.length l6.length)).setCell ⟨g2, 0, none⟩ (.int .u32 pa)).setCell ⟨g2, 1, none⟩ (.int .i64 pl)).setCell ⟨g2, 2, none⟩ (.int .i64 pe)).setCell ⟨g2, 3, none⟩ (.int .i64 o)).setCell ⟨g2, 4, none⟩ (.slice B1 l1.length d1)).setCell ⟨g2, 5, none⟩ (.int .u32 nx)).setCell ⟨g2, 6, none⟩ (.int .i64 md)).setCell ⟨g2, 7, none⟩ (.int .i64 pr)).setCell ⟨g2, 8, none⟩ (.slice B5 l5.length l5.length)).setCell ⟨g2, 9, none⟩ (.slice B6 l6.length l6.length)).setCell ⟨g2, 10, none⟩ (.int .i64 st)) = wF at BKF HE1 HE5 HE6 HEB ⊢
  refine bodyPost_ret (results_cell_row rfl _ _ g2 48 #[.int .u32 pa, .int .i64 pl, .int .i64 pe, .int .i64 o, .slice B1 l1.length d1, .int .u32 nx, .int .i64 md, .int .i64 pr, .slice B5 l5.length l5.length, .slice B6 l6.length l6.length, .int .i64 st] (0, 0) _ rfl BKF.out Try.underlying48 rfl (by kernel_rfl)) rfl ?_
  exact ⟨B1, d1, d1', B5, d5', B6, d6', rfl, HL1.out, HE1.out, HE5.out, HE6.out, HEB.out⟩
theorem self_r (cs : List Value) : ∀ (j : Nat) (v : Value), cs[j]? = some v → cs.toArray.toList[0 + j]? = some v := by
  intro j v h
  rw [Nat.zero_add]
  exact h
/-- The rows of a route of its own memory. -/
def RouteAt (w : World) (base : Nat) (ok : Nat → Prop) (B1 : Option Addr) (d1 : Nat) (l1 : List S38) (B5 : Option Addr) (d5 : Nat) (l5 : List Int) (B6 : Option Addr) (d6 : Nat) (l6 : List S58) : Prop :=
  Kd.R kc38 38 w base ok (.slice B1 l1.length d1) l1 ∧ Kd.R (Kd.int .u32) 40 w base ok (.slice B5 l5.length d5) l5 ∧ Kd.R k58 58 w base ok (.slice B6 l6.length d6) l6
section
variable {w w1 : World} {base : Nat} {ok ok' : Nat → Prop} {B1 : Option Addr} {d1 : Nat} {l1 : List S38} {B5 : Option Addr} {d5 : Nat} {l5 : List Int} {B6 : Option Addr} {d6 : Nat} {l6 : List S58}
theorem RouteAt.below (h : RouteAt w base ok B1 d1 l1 B5 d5 l5 B6 d6 l6) (hb : Below w.heap.size w w1) : RouteAt w1 base ok B1 d1 l1 B5 d5 l5 B6 d6 l6 := ⟨Kd.R_below h.1 hb, Kd.R_below h.2.1 hb, Kd.R_below h.2.2 hb⟩
theorem RouteAt.mono (h : RouteAt w base ok B1 d1 l1 B5 d5 l5 B6 d6 l6) (hm : ∀ k, ok k → ok' k) : RouteAt w base ok' B1 d1 l1 B5 d5 l5 B6 d6 l6 := ⟨Kd.R_mono h.1 hm, Kd.R_mono h.2.1 hm, Kd.R_mono h.2.2 hm⟩
theorem RouteAt.bound (h : RouteAt w base ok B1 d1 l1 B5 d5 l5 B6 d6 l6) : RouteAt w base (fun k => k < w.heap.size) B1 d1 l1 B5 d5 l5 B6 d6 l6 := ⟨Kd.R_mono (Kd.R_bound h.1) (fun _ hk => hk.2.2.1), Kd.R_mono (Kd.R_bound h.2.1) (fun _ hk => hk.2.2.1), Kd.R_mono (Kd.R_bound h.2.2) (fun _ hk => hk.2.2.1)⟩
theorem RouteAt.lower (h : RouteAt w base ok B1 d1 l1 B5 d5 l5 B6 d6 l6) {base' : Nat} (hb : base' ≤ base) : RouteAt w base' ok B1 d1 l1 B5 d5 l5 B6 d6 l6 := ⟨Kd.R_lower h.1 hb, Kd.R_lower h.2.1 hb, Kd.R_lower h.2.2 hb⟩
theorem R_grownT {α : Type} {d : Kd α} {e g t : Nat} {v : Value} {xs : List α} {cells : Array Value} (h : d.R e w base ok v xs) (hg : w.grownBy w1 (some g)) (hb : w.heap[g]? = some (.cells cells t (0, 0))) (ht : ∀ q, q ∈ e :: d.E → q ≠ t) : d.R e w1 base ok v xs :=
  Kd.R_mono (Kd.R_grown (Kd.R_types h hb ht) hg (fun k hk e => hk.2 (by injection e))) (fun _ hk => hk.1)
/-- A struct elsewhere is written. -/
theorem RouteAt.grown (h : RouteAt w base ok B1 d1 l1 B5 d5 l5 B6 d6 l6) {g : Nat} {cells : Array Value} (hg : w.grownBy w1 (some g)) (hb : w.heap[g]? = some (.cells cells 48 (0, 0))) : RouteAt w1 base ok B1 d1 l1 B5 d5 l5 B6 d6 l6 :=
  ⟨R_grownT h.1 hg hb (by decide), R_grownT h.2.1 hg hb (by decide), R_grownT h.2.2 hg hb (by decide)⟩
end
structure OwnSt where
  g3 : Nat
  g4 : Nat
  s1 : Nat
  B1 : Option Addr
  d1 : Nat
  r1 : Nat
  B5 : Option Addr
  r5 : Nat
  B6 : Option Addr
  r6 : Nat
  E1 : Option Addr
  e1 : Nat
  q1 : Nat
  E5 : Option Addr
  q5 : Nat
  E6 : Option Addr
  q6 : Nat
def ownS0 : OwnSt := ⟨0, 0, 0, none, 0, 0, none, 0, none, 0, none, 0, 0, none, 0, none, 0⟩
def zroute : Array Value := #[.int .u32 0, .int .i64 0, .int .i64 0, .int .i64 0, .slice none 0 0, .int .u32 0, .int .i64 0, .int .i64 0, .slice none 0 0, .slice none 0 0, .int .i64 0]
/-- What holds at a place of the region in which two routes are made: a, b: were they made; x, y: are the variables there. -/
def ownF (w : World) (flat : Array Value) (gr : Nat) (l1 : List S38) (l5 : List Int) (l6 : List S58) (a b x y : Bool) (s : OwnSt) (w' : World) : Prop :=
  Below w.heap.size w w' ∧ w'.heap[gr]? = some (.cells flat 48 (0, 0)) ∧ (x = true → w.heap.size ≤ s.g3 ∧ w'.heap[s.g3]? = some (.cells zroute 48 (0, 0)) ∧ s.g3 ≠ gr) ∧ (y = true → w.heap.size ≤ s.g4 ∧ w'.heap[s.g4]? = some (.cells zroute 48 (0, 0)) ∧ s.g4 ≠ gr) ∧ (x = true → y = true → s.g3 ≠ s.g4) ∧
  (a = true → l1.length ≤ s.d1 ∧ s.s1 ≤ w'.heap.size ∧ RouteAt w' w.heap.size (fun k => k < s.s1) s.B1 s.r1 l1 s.B5 s.r5 l5 s.B6 s.r6 l6) ∧
  (b = true → l1.length ≤ s.e1 ∧ RouteAt w' w.heap.size (fun k => s.s1 ≤ k) s.E1 s.q1 l1 s.E5 s.q5 l5 s.E6 s.q6 l6)
section
variable {w W w1 : World} {flat : Array Value} {gr : Nat} {l1 : List S38} {l5 : List Int} {l6 : List S58} {a b x y : Bool} {s : OwnSt}
theorem ownF_0 (hb : Below w.heap.size w W) (hr : W.heap[gr]? = some (.cells flat 48 (0, 0))) : ownF w flat gr l1 l5 l6 false false false false s W :=
  ⟨hb, hr, (fun h => by simp at h), (fun h => by simp at h), (fun h => by simp at h), (fun h => by simp at h), (fun h => by simp at h)⟩
theorem ownF_x (h : ownF w flat gr l1 l5 l6 a b false y s W) : ownF w flat gr l1 l5 l6 a b true y { s with g3 := W.heap.size } (W.alloc (.cells zroute 48)) := by
  obtain ⟨h1, h2, h3, h4, h5, h6, h7⟩ := h
  have hb : Below W.heap.size W (W.alloc (.cells zroute 48)) := below_alloc (Below.refl _ _) _
  refine ⟨below_step h1 hb, (hb.block _ (blk_lt h2)).trans h2, fun _ => ⟨h1.size, alloc_at _ _, fun e => ?_⟩, fun hy => ?_, fun _ hy => ?_, fun ha => ?_, fun hb' => ?_⟩
  · have := blk_lt h2
    have e' : W.heap.size = gr := e
    omega
  · obtain ⟨p, q, r⟩ := h4 hy
    exact ⟨p, (hb.block _ (blk_lt q)).trans q, r⟩
  · obtain ⟨p, q, r⟩ := h4 hy
    have := blk_lt q
    show W.heap.size ≠ s.g4
    omega
  · obtain ⟨p, q, r⟩ := h6 ha
    exact ⟨p, Nat.le_trans q hb.size, r.below hb⟩
  · obtain ⟨p, q⟩ := h7 hb'
    exact ⟨p, q.below hb⟩
theorem ownF_y (h : ownF w flat gr l1 l5 l6 a b x false s W) : ownF w flat gr l1 l5 l6 a b x true { s with g4 := W.heap.size } (W.alloc (.cells zroute 48)) := by
  obtain ⟨h1, h2, h3, h4, h5, h6, h7⟩ := h
  have hb : Below W.heap.size W (W.alloc (.cells zroute 48)) := below_alloc (Below.refl _ _) _
  refine ⟨below_step h1 hb, (hb.block _ (blk_lt h2)).trans h2, fun hx => ?_, fun _ => ⟨h1.size, alloc_at _ _, fun e => ?_⟩, fun hx _ => ?_, fun ha => ?_, fun hb' => ?_⟩
  · obtain ⟨p, q, r⟩ := h3 hx
    exact ⟨p, (hb.block _ (blk_lt q)).trans q, r⟩
  · have := blk_lt h2
    have e' : W.heap.size = gr := e
    omega
  · obtain ⟨p, q, r⟩ := h3 hx
    have := blk_lt q
    show s.g3 ≠ W.heap.size
    omega
  · obtain ⟨p, q, r⟩ := h6 ha
    exact ⟨p, Nat.le_trans q hb.size, r.below hb⟩
  · obtain ⟨p, q⟩ := h7 hb'
    exact ⟨p, q.below hb⟩
theorem ownF_a (h : ownF w flat gr l1 l5 l6 false false x y s W) {B1 : Option Addr} {d1 r1 : Nat} {B5 : Option Addr} {r5 : Nat} {B6 : Option Addr} {r6 : Nat} (hl : l1.length ≤ d1) (hr : RouteAt w1 W.heap.size (fun k => W.heap.size ≤ k) B1 r1 l1 B5 r5 l5 B6 r6 l6) (hb : Below W.heap.size W w1) :
    ownF w flat gr l1 l5 l6 true false x y { s with s1 := w1.heap.size, B1 := B1, d1 := d1, r1 := r1, B5 := B5, r5 := r5, B6 := B6, r6 := r6 } w1 := by
  obtain ⟨h1, h2, h3, h4, h5, h6, h7⟩ := h
  refine ⟨below_step h1 hb, (hb.block _ (blk_lt h2)).trans h2, fun hx => ?_, fun hy => ?_, h5, fun _ => ⟨hl, Nat.le_refl _, (RouteAt.bound hr).lower h1.size⟩, fun hb' => by simp at hb'⟩
  · obtain ⟨p, q, r⟩ := h3 hx
    exact ⟨p, (hb.block _ (blk_lt q)).trans q, r⟩
  · obtain ⟨p, q, r⟩ := h4 hy
    exact ⟨p, (hb.block _ (blk_lt q)).trans q, r⟩
theorem ownF_b (h : ownF w flat gr l1 l5 l6 true false x y s W) {B1 : Option Addr} {d1 r1 : Nat} {B5 : Option Addr} {r5 : Nat} {B6 : Option Addr} {r6 : Nat} (hl : l1.length ≤ d1) (hr : RouteAt w1 W.heap.size (fun k => W.heap.size ≤ k) B1 r1 l1 B5 r5 l5 B6 r6 l6) (hb : Below W.heap.size W w1) :
    ownF w flat gr l1 l5 l6 true true x y { s with E1 := B1, e1 := d1, q1 := r1, E5 := B5, q5 := r5, E6 := B6, q6 := r6 } w1 := by
  obtain ⟨h1, h2, h3, h4, h5, h6, h7⟩ := h
  obtain ⟨a1, a2, a3⟩ := h6 rfl
  refine ⟨below_step h1 hb, (hb.block _ (blk_lt h2)).trans h2, fun hx => ?_, fun hy => ?_, h5, fun _ => ⟨a1, Nat.le_trans a2 hb.size, a3.below hb⟩, fun _ => ⟨hl, (hr.mono (fun k hk => Nat.le_trans a2 hk)).lower h1.size⟩⟩
  · obtain ⟨p, q, r⟩ := h3 hx
    exact ⟨p, (hb.block _ (blk_lt q)).trans q, r⟩
  · obtain ⟨p, q, r⟩ := h4 hy
    exact ⟨p, (hb.block _ (blk_lt q)).trans q, r⟩
end
/-- What is known of the rows of a route whose numbers may be any. -/
def shSeg : Kd (Bool × Nat) := Kd.pair Kd.bool (lenRow 3 .i64)
def shRaw : Kd (Int × Int × Nat) := Kd.pair (Kd.int .i64) (Kd.pair (Kd.int .i64) (lenRow 5 .u8))
def segSh (l : List S38) : List (Bool × Nat) := l.map fun x => (x.f0, x.f1.length)
def rawSh (l : List S58) : List (Int × Int × Nat) := l.map fun x => (x.f0, x.f1, x.f2.length)
theorem segSh_len (l : List S38) : (segSh l).length = l.length := by simp [segSh]
theorem rawSh_len (l : List S58) : (rawSh l).length = l.length := by simp [rawSh]
def Shapes (w : World) (base : Nat) (ok : Nat → Prop) (B1 : Option Addr) (r1 : Nat) (L1 : List (Bool × Nat)) (B5 : Option Addr) (n5 : Nat) (B6 : Option Addr) (r6 : Nat) (L6 : List (Int × Int × Nat)) : Prop :=
  shSeg.R 38 w base ok (.slice B1 L1.length r1) L1 ∧ (lenRow 40 .u32).M w base ok n5 [.slice B5 n5 n5] ∧ shRaw.R 58 w base ok (.slice B6 L6.length r6) L6
section
variable {w w1 : World} {base : Nat} {ok ok' : Nat → Prop} {B1 : Option Addr} {r1 : Nat} {l1 : List S38} {B5 : Option Addr} {r5 : Nat} {l5 : List Int} {B6 : Option Addr} {r6 : Nat} {l6 : List S58} {L1 : List (Bool × Nat)} {n5 : Nat} {L6 : List (Int × Int × Nat)}
theorem RouteAt.shapes (h : RouteAt w base ok B1 r1 l1 B5 r5 l5 B6 r6 l6) : Shapes w base ok B1 r1 (segSh l1) B5 l5.length B6 r6 (rawSh l6) := by
  obtain ⟨h1, h2, h3⟩ := h
  refine ⟨?_, ints_shape (Nat.le_refl _) h2, ?_⟩
  · rw [segSh_len]
    refine R_map (d := kc38) (d' := shSeg) (fun x => (x.f0, x.f1.length)) rfl (fun ok x cs hM => ?_) h1
    obtain ⟨c0, c1, rfl, h0, h1⟩ := hM
    exact ⟨c0, c1, rfl, h0, cut_shape h1⟩
  · rw [rawSh_len]
    refine R_map (d := k58) (d' := shRaw) (fun x => (x.f0, x.f1, x.f2.length)) rfl (fun ok x cs hM => ?_) h3
    obtain ⟨c0, c1, rfl, h0, c2, c3, rfl, h1, h2⟩ := hM
    exact ⟨c0, _, rfl, h0, c2, c3, rfl, h1, slice_shape h2⟩
/-- A number is written. -/
theorem Shapes.put (h : Shapes w base ok B1 r1 L1 B5 n5 B6 r6 L6) {g j : Nat} {kd : IntKind} {x : Int} {cells : Array Value} {e : TypeId} (hg : w.heap[g]? = some (.cells cells e (0, 0)))
    (h3 : e = 3 → kd = .i64) (h4 : e = 40 → kd = .u32) (h5 : e = 5 → kd = .u8) (n3 : 38 ≠ e) (n5' : 58 ≠ e) : Shapes (w.setCell ⟨g, j, none⟩ (.int kd x)) base ok B1 r1 L1 B5 n5 B6 r6 L6 := by
  obtain ⟨h1, h2, h6⟩ := h
  refine ⟨R_putM h1 (fun k hk => Below.heap_setCell _ _ _ _ (fun e' => Kd.R_ne h1 hg n3 (by have e2 : k = g := e'; rw [← e2]; exact hk.symm))) (fun ok x cs hM => ?_), shape_put h2 hg h4, R_putM h6 (fun k hk => Below.heap_setCell _ _ _ _ (fun e' => Kd.R_ne h6 hg n5' (by have e2 : k = g := e'; rw [← e2]; exact hk.symm))) (fun ok x cs hM => ?_)⟩
  · obtain ⟨c0, c1, rfl, p0, p1⟩ := hM
    exact ⟨c0, c1, rfl, p0, shape_put p1 hg h3⟩
  · obtain ⟨c0, c1, rfl, p0, c2, c3, rfl, p1, p2⟩ := hM
    exact ⟨c0, _, rfl, p0, c2, c3, rfl, p1, shape_put p2 hg h5⟩
end
/-- What holds while the first route is written: rows of it (a), and the second one (b). -/
def writF (w : World) (flat ac bc : Array Value) (gr g3 g4 s1 : Nat) (B1 : Option Addr) (r1 : Nat) (L1 : List (Bool × Nat)) (B5 : Option Addr) (n5 : Nat) (B6 : Option Addr) (r6 : Nat) (L6 : List (Int × Int × Nat)) (E1 : Option Addr) (q1 : Nat) (l1 : List S38) (E5 : Option Addr) (q5 : Nat) (l5 : List Int) (E6 : Option Addr) (q6 : Nat) (l6 : List S58) (W : World) : Prop :=
  Below w.heap.size w W ∧ W.heap[gr]? = some (.cells flat 48 (0, 0)) ∧ W.heap[g3]? = some (.cells ac 48 (0, 0)) ∧ W.heap[g4]? = some (.cells bc 48 (0, 0)) ∧ Shapes W w.heap.size (fun k => k < s1) B1 r1 L1 B5 n5 B6 r6 L6 ∧ RouteAt W w.heap.size (fun k => s1 ≤ k) E1 q1 l1 E5 q5 l5 E6 q6 l6
section
variable {w W : World} {flat ac bc : Array Value} {gr g3 g4 s1 : Nat} {B1 : Option Addr} {r1 : Nat} {L1 : List (Bool × Nat)} {B5 : Option Addr} {n5 : Nat} {B6 : Option Addr} {r6 : Nat} {L6 : List (Int × Int × Nat)} {E1 : Option Addr} {q1 : Nat} {l1 : List S38} {E5 : Option Addr} {q5 : Nat} {l5 : List Int} {E6 : Option Addr} {q6 : Nat} {l6 : List S58}
theorem writF.put (h : writF w flat ac bc gr g3 g4 s1 B1 r1 L1 B5 n5 B6 r6 L6 E1 q1 l1 E5 q5 l5 E6 q6 l6 W) {g j : Nat} {kd : IntKind} {x : Int} {cells : Array Value} {e : TypeId} (hg : W.heap[g]? = some (.cells cells e (0, 0))) (hge : w.heap.size ≤ g) (hlt : g < s1)
    (h3 : e = 3 → kd = .i64) (h4 : e = 40 → kd = .u32) (h5 : e = 5 → kd = .u8) (n3 : 38 ≠ e) (n5' : 58 ≠ e) (n4 : 48 ≠ e) : writF w flat ac bc gr g3 g4 s1 B1 r1 L1 B5 n5 B6 r6 L6 E1 q1 l1 E5 q5 l5 E6 q6 l6 (W.setCell ⟨g, j, none⟩ (.int kd x)) := by
  obtain ⟨p1, p2, p3, p4, p5, p6⟩ := h
  have ne : ∀ (k : Nat) (cs : Array Value), W.heap[k]? = some (.cells cs 48 (0, 0)) → (W.setCell ⟨g, j, none⟩ (.int kd x)).heap[k]? = some (.cells cs 48 (0, 0)) := fun k cs hk => (Below.heap_setCell _ _ _ _ (fun e' => by
    have e2 : k = g := e'
    subst e2
    rw [hk] at hg
    injection hg with hg
    injection hg with _ hg
    exact n4 hg)).trans hk
  have far : ∀ k, s1 ≤ k → k ≠ g := fun k hk e => by omega
  exact ⟨Below.setCell p1 hge _, ne _ _ p2, ne _ _ p3, ne _ _ p4, p5.put hg h3 h4 h5 n3 n5', Kd.R_far p6.1 far _, Kd.R_far p6.2.1 far _, Kd.R_far p6.2.2 far _⟩
theorem writF.below {W' : World} (h : writF w flat ac bc gr g3 g4 s1 B1 r1 L1 B5 n5 B6 r6 L6 E1 q1 l1 E5 q5 l5 E6 q6 l6 W) : True := trivial
theorem at_seg (h : shSeg.R 38 W w.heap.size (fun k => k < s1) (.slice B1 L1.length r1) L1) (i : Int) (h0 : 0 ≤ i) (h1 : i < L1.length) (m : Nat) (hm : (L1.getD i.toNat (false, 0)).2 = m) : ∃ ad A c, B1 = some ad ∧ W.cell? ⟨(ad.add (i.toNat * 2)).block, (ad.add (i.toNat * 2)).off + 1, none⟩ = some (.slice A m c) ∧ m ≤ 9223372036854775807 ∧ Ints w.heap.size W .i64 3 A m ∧ (0 < m → ∀ g, A = some ⟨g, 0, none⟩ → g < s1) := by
  obtain ⟨g, cs, hA, _, _, _, ⟨c0, c1, rfl, p0, p1⟩, hc⟩ := R_get h (false, 0) i h0 h1
  rw [hm] at p1
  obtain ⟨A, c, rfl, _, hmx, hi, ho⟩ := p1
  have p0' : c0 = [.bool (L1.getD i.toNat (false, 0)).1] := p0
  subst p0'
  refine ⟨⟨g, 0, none⟩, A, c, hA, ?_, hmx, hi, fun h0 g hg => (ho h0 g hg).1⟩
  have hc' : ∀ j u, ([.bool (L1.getD i.toNat (false, 0)).1, .slice A m c] : List Value)[j]? = some u → W.cell? ((⟨g, 0, none⟩ : Addr).add (i.toNat * 2 + j)) = some u := hc
  rw [← add_field _ _ 1 (by omega)]
  exact hc' 1 _ rfl
theorem at_raw (h : shRaw.R 58 W w.heap.size (fun k => k < s1) (.slice B6 L6.length r6) L6) (i : Int) (h0 : 0 ≤ i) (h1 : i < L6.length) (m : Nat) (hm : (L6.getD i.toNat (0, 0, 0)).2.2 = m) : ∃ ad A c, B6 = some ad ∧ W.cell? ⟨(ad.add (i.toNat * 3)).block, (ad.add (i.toNat * 3)).off + 2, none⟩ = some (.slice A m c) ∧ m ≤ 9223372036854775807 ∧ Ints w.heap.size W .u8 5 A m ∧ (0 < m → ∀ g, A = some ⟨g, 0, none⟩ → g < s1) := by
  obtain ⟨g, cs, hA, _, _, _, ⟨c0, c1, rfl, p0, c2, c3, rfl, p1, p2⟩, hc⟩ := R_get h (0, 0, 0) i h0 h1
  rw [hm] at p2
  obtain ⟨A, c, rfl, _, hmx, hi, ho⟩ := p2
  have p0' : c0 = [.int .i64 (L6.getD i.toNat (0, 0, 0)).1] := p0
  have p1' : c2 = [.int .i64 (L6.getD i.toNat (0, 0, 0)).2.1] := p1
  subst p0' p1'
  refine ⟨⟨g, 0, none⟩, A, c, hA, ?_, hmx, hi, fun h0 g hg => (ho h0 g hg).1⟩
  have hc' : ∀ j u, ([.int .i64 (L6.getD i.toNat (0, 0, 0)).1, .int .i64 (L6.getD i.toNat (0, 0, 0)).2.1, .slice A m c] : List Value)[j]? = some u → W.cell? ((⟨g, 0, none⟩ : Addr).add (i.toNat * 3 + j)) = some u := hc
  rw [← add_field _ _ 2 (by omega)]
  exact hc' 2 _ rfl
end
section
variable {w W : World} {s1 : Nat} {B5 : Option Addr} {n5 : Nat}
theorem at_comms (h : (lenRow 40 .u32).M W w.heap.size (fun k => k < s1) n5 [.slice B5 n5 n5]) : n5 ≤ 9223372036854775807 ∧ Ints w.heap.size W .u32 40 B5 n5 ∧ (0 < n5 → ∀ g, B5 = some ⟨g, 0, none⟩ → g < s1) := by
  obtain ⟨A, c, he, _, hm, hi, ho⟩ := h
  have hA : B5 = A := by
    injection he with he _
    injection he
  subst hA
  exact ⟨hm, hi, ho⟩
end
set_option maxHeartbeats 4000000 in
set_option maxRecDepth 100000 in
open Go.Proofs.Ytpkckkmgnlhhcaa.Mid in
theorem law_not_small (k : Nat) (pa pl pe o : Int) (A1 : Option Addr) (c1 : Nat) (l1 : List S38) (nx md pr : Int) (A5 : Option Addr) (c5 : Nat) (l5 : List Int) (A6 : Option Addr) (c6 : Nat) (l6 : List S58) (st : Int) (w : World)
    (hr1 : Kd.C k38 w A1 l1.length l1) (hc1 : l1.length ≤ c1) (hr5 : Kd.C (Kd.int .u32) w A5 l5.length l5) (hc5 : l5.length ≤ c5) (hr6 : Kd.C k58 w A6 l6.length l6) (hc6 : l6.length ≤ c6) (hs : interregnumlaw13_small.f k pa pl pe o l1 nx md pr l5 l6 st = some false) :
    Calls Try.prog 9 #[.agg #[.int .u32 pa, .int .i64 pl, .int .i64 pe, .int .i64 o, .slice A1 l1.length c1, .int .u32 nx, .int .i64 md, .int .i64 pr, .slice A5 l5.length c5, .slice A6 l6.length c6, .int .i64 st]] w fun e w' => e = .returned (.bool true) ∧ Below w.heap.size w w' := by
  have HR1 := Aside0.mk hr1
  have HR5 := Aside0.mk hr5
  have HR6 := Aside0.mk hr6
  have HC := Aside0.mk (And.intro hc1 (And.intro hc5 hc6))
  have HB := Aside0.mk (Below.refl w.heap.size w)
  have hu46 := Try.underlying46
  have hu48 := Try.underlying48
  clear hr1 hc1 hr5 hc5 hr6 hc6
  have HS := Aside0.mk hs
  clear hs
  go_enter Try.func9, Try.ntmps9
  go_wp2_with (first | ((with_reducible refine gate_dst (N := 1) rfl ?_); refine box_event ?hg (N := 1) ?hd (cs := #[.int .u32 pa, .int .i64 pl, .int .i64 pe, .int .i64 o, .slice A1 l1.length c1, .int .u32 nx, .int .i64 md, .int .i64 pr, .slice A5 l5.length c5, .slice A6 l6.length c6, .int .i64 st]) (t := 48) ?hr ?_; (case hd => rfl); (case hg => rfl); (case hr => first | (go_simp; done) | (go_simp; rfl)); intro gr hg w1 hbox hb; have HB1 := Aside0.mk (below_step HB.out hb); have BKR1 := Aside0.mk hbox; have GER := Aside0.mk (show w.heap.size ≤ gr from by rw [hg]; exact Nat.le_refl _); clear hbox hb hg) | ((with_reducible refine gate_dst (N := 10) rfl ?_); (try (refine gate_guard (by rfl) ?_; dsimp only)); refine load_blk rfl 48 (.tmp 1) rfl (g := gr) (off := 0) [.int .u32 pa, .int .i64 pl, .int .i64 pe, .int .i64 o, .slice A1 l1.length c1, .int .u32 nx, .int .i64 md, .int .i64 pr, .slice A5 l5.length c5, .slice A6 l6.length c6, .int .i64 st] _ rfl BKR1.out (self_r _) Try.underlying48 rfl (by kernel_rfl) ?_) | (go_at_call 28; with_reducible refine (interregnumlaw13_small.calls k pa pl pe o A1 c1 l1 nx md pr A5 c5 l5 A6 c6 l6 st false _ (Kd.C_below HR1.out HB1.out) HC.out.1 (Kd.C_below HR5.out HB1.out) HC.out.2.1 (Kd.C_below HR6.out HB1.out) HC.out.2.2 HS.out).mono ?_; rintro e w3 ⟨rfl, hb⟩; have BKR := Aside0.mk ((hb.block _ (blk_lt BKR1.out)).trans BKR1.out); have HB3 := Aside0.mk (below_step HB1.out hb); clear hb) | (go_at_call 29; with_reducible refine (interregnumlaw13_answers.calls true _ rfl).mono ?_; rintro e w4 ⟨rfl, hb⟩; have HB4 := Aside0.mk (below_step HB3.out hb); clear hb))
  go_ret
  exact ⟨rfl, by first | exact HB4.out | exact pw_below_drewN HB4.out _⟩
set_option maxHeartbeats 4000000 in
set_option maxRecDepth 100000 in
open Go.Proofs.Ytpkckkmgnlhhcaa.Mid in
theorem law_small (k : Nat) (pa pl pe o : Int) (A1 : Option Addr) (c1 : Nat) (l1 : List S38) (nx md pr : Int) (A5 : Option Addr) (c5 : Nat) (l5 : List Int) (A6 : Option Addr) (c6 : Nat) (l6 : List S58) (st : Int) (w : World)
    (hr1 : Kd.C k38 w A1 l1.length l1) (hc1 : l1.length ≤ c1) (hr5 : Kd.C (Kd.int .u32) w A5 l5.length l5) (hc5 : l5.length ≤ c5) (hr6 : Kd.C k58 w A6 l6.length l6) (hc6 : l6.length ≤ c6) (hs : interregnumlaw13_small.f k pa pl pe o l1 nx md pr l5 l6 st = some true) (h4 : l1.length < 4000) (hd1 : ∀ y ∈ l1, slices_Clone_int_int.f y.f1 = some y.f1) (h5 : slices_Clone_uint32_uint32.f l5 = some l5) (h6 : l6.length < 4000) (hd : ∀ r ∈ l6, bytes_Clone.f r.f2 = some r.f2) (hsame : interregnumref11_SameRoute.f k pa pl pe o l1 nx md pr l5 l6 st pa pl pe o l1 nx md pr l5 l6 st = some true) :
    Calls Try.prog 9 #[.agg #[.int .u32 pa, .int .i64 pl, .int .i64 pe, .int .i64 o, .slice A1 l1.length c1, .int .u32 nx, .int .i64 md, .int .i64 pr, .slice A5 l5.length c5, .slice A6 l6.length c6, .int .i64 st]] w fun e w' => e = .returned (.bool true) ∧ Below w.heap.size w w' := by
  have HR1 := Aside0.mk hr1
  have HR5 := Aside0.mk hr5
  have HR6 := Aside0.mk hr6
  have HC := Aside0.mk (And.intro hc1 (And.intro hc5 hc6))
  have HB := Aside0.mk (Below.refl w.heap.size w)
  have hu46 := Try.underlying46
  have hu48 := Try.underlying48
  clear hr1 hc1 hr5 hc5 hr6 hc6
  have HS := Aside0.mk hs
  have H4 := Aside0.mk h4
  have HD1 := Aside0.mk hd1
  have H5 := Aside0.mk h5
  have H6 := Aside0.mk h6
  have HD := Aside0.mk hd
  have HSM := Aside0.mk hsame
  clear hs h4 hd1 h5 h6 hd hsame
  go_enter Try.func9, Try.ntmps9
  go_upto_region 3 with (first | ((with_reducible refine gate_dst (N := 1) rfl ?_); refine box_event ?hg (N := 1) ?hd (cs := #[.int .u32 pa, .int .i64 pl, .int .i64 pe, .int .i64 o, .slice A1 l1.length c1, .int .u32 nx, .int .i64 md, .int .i64 pr, .slice A5 l5.length c5, .slice A6 l6.length c6, .int .i64 st]) (t := 48) ?hr ?_; (case hd => rfl); (case hg => rfl); (case hr => first | (go_simp; done) | (go_simp; rfl)); intro gr hg w1 hbox hb; have HB1 := Aside0.mk (below_step HB.out hb); have BKR1 := Aside0.mk hbox; have GER := Aside0.mk (show w.heap.size ≤ gr from by rw [hg]; exact Nat.le_refl _); clear hbox hb hg) | ((with_reducible refine gate_dst (N := 10) rfl ?_); (try (refine gate_guard (by rfl) ?_; dsimp only)); refine load_blk rfl 48 (.tmp 1) rfl (g := gr) (off := 0) [.int .u32 pa, .int .i64 pl, .int .i64 pe, .int .i64 o, .slice A1 l1.length c1, .int .u32 nx, .int .i64 md, .int .i64 pr, .slice A5 l5.length c5, .slice A6 l6.length c6, .int .i64 st] _ rfl BKR1.out (self_r _) Try.underlying48 rfl (by kernel_rfl) ?_) | (go_at_call 28; with_reducible refine (interregnumlaw13_small.calls k pa pl pe o A1 c1 l1 nx md pr A5 c5 l5 A6 c6 l6 st true _ (Kd.C_below HR1.out HB1.out) HC.out.1 (Kd.C_below HR5.out HB1.out) HC.out.2.1 (Kd.C_below HR6.out HB1.out) HC.out.2.2 HS.out).mono ?_; rintro e w3 ⟨rfl, hb⟩; have BKR := Aside0.mk ((hb.block _ (blk_lt BKR1.out)).trans BKR1.out); have HB3 := Aside0.mk (below_step HB1.out hb); clear hb))
  refine start_ (n := 8) (S := fun w' => w'.heap[gr]? = some (.cells #[.int .u32 pa, .int .i64 pl, .int .i64 pe, .int .i64 o, .slice A1 l1.length c1, .int .u32 nx, .int .i64 md, .int .i64 pr, .slice A5 l5.length c5, .slice A6 l6.length c6, .int .i64 st] 48 (0, 0))) (ds := []) #[false, false, false, false, false, false, false, false] (by kernel_rfl) rfl rfl (BKR.out) (fun hHeld => ?_)
  have hF := Aside0.mk (show ownF w #[.int .u32 pa, .int .i64 pl, .int .i64 pe, .int .i64 o, .slice A1 l1.length c1, .int .u32 nx, .int .i64 md, .int .i64 pr, .slice A5 l5.length c5, .slice A6 l6.length c6, .int .i64 st] gr l1 l5 l6 false false false false ownS0 w3.drew from ownF_0 (below_drew1 HB3.out) (blk_drew BKR.out))
  generalize w3.drew = wD at hF hHeld ⊢
  refine take_ (i := 0) (N := some 14) (v := ?_) (a' := ?_) #[true, false, false, false, false, false, false, false] rfl rfl (by kernel_rfl) (fun _ _ _ h => h) (Or.inl ⟨by rfl, ?_⟩) hHeld ?_ ?_
  rotate_left
  · intro w' s0
    refine load_run 48 (.tmp 1) ?_ [.int .u32 pa, .int .i64 pl, .int .i64 pe, .int .i64 o, .slice A1 l1.length c1, .int .u32 nx, .int .i64 md, .int .i64 pr, .slice A5 l5.length c5, .slice A6 l6.length c6, .int .i64 st] _ ?_ s0 (self_r _) Try.underlying48 rfl ?_
    · rfl
    · rfl
    · kernel_rfl
  rotate_left
  · simp only [Act.put, List.setIfInBounds_toArray, List.set_cons_zero, List.set_cons_succ, i64_w, i32_w]
    rfl
  refine take_ (i := 2) (N := some 16) (v := ?_) (a' := ?_) #[true, false, true, false, false, false, false, false] rfl rfl (by kernel_rfl) (fun _ _ _ h => h) (Or.inl ⟨by rfl, ?_⟩) hHeld ?_ ?_
  rotate_left
  · intro w' s0
    refine load_run 48 (.tmp 1) ?_ [.int .u32 pa, .int .i64 pl, .int .i64 pe, .int .i64 o, .slice A1 l1.length c1, .int .u32 nx, .int .i64 md, .int .i64 pr, .slice A5 l5.length c5, .slice A6 l6.length c6, .int .i64 st] _ ?_ s0 (self_r _) Try.underlying48 rfl ?_
    · rfl
    · rfl
    · kernel_rfl
  rotate_left
  · simp only [Act.put, List.setIfInBounds_toArray, List.set_cons_zero, List.set_cons_succ, i64_w, i32_w]
    rfl
  refine join_ (σ := OwnSt) 2 #[true, true, true, true, true, true, false, false] (fun s_ => [(15, .agg #[.int .u32 pa, .int .i64 pl, .int .i64 pe, .int .i64 o, .slice s_.B1 l1.length s_.d1, .int .u32 nx, .int .i64 md, .int .i64 pr, .slice s_.B5 l5.length l5.length, .slice s_.B6 l6.length l6.length, .int .i64 st]), (17, .agg #[.int .u32 pa, .int .i64 pl, .int .i64 pe, .int .i64 o, .slice s_.E1 l1.length s_.e1, .int .u32 nx, .int .i64 md, .int .i64 pr, .slice s_.E5 l5.length l5.length, .slice s_.E6 l6.length l6.length, .int .i64 st]), (3, .pointer (some ⟨s_.g3, 0, none⟩)), (4, .pointer (some ⟨s_.g4, 0, none⟩))]) (fun s_ w' => ownF w #[.int .u32 pa, .int .i64 pl, .int .i64 pe, .int .i64 o, .slice A1 l1.length c1, .int .u32 nx, .int .i64 md, .int .i64 pr, .slice A5 l5.length c5, .slice A6 l6.length c6, .int .i64 st] gr l1 l5 l6 true true true true s_ w') ?_ ?_
  rotate_left
  · intro hJ1_3_4_5
    refine join_ (σ := OwnSt) 3 #[true, true, true, true, true, false, false, false] (fun s_ => [(15, .agg #[.int .u32 pa, .int .i64 pl, .int .i64 pe, .int .i64 o, .slice s_.B1 l1.length s_.d1, .int .u32 nx, .int .i64 md, .int .i64 pr, .slice s_.B5 l5.length l5.length, .slice s_.B6 l6.length l6.length, .int .i64 st]), (17, .agg #[.int .u32 pa, .int .i64 pl, .int .i64 pe, .int .i64 o, .slice s_.E1 l1.length s_.e1, .int .u32 nx, .int .i64 md, .int .i64 pr, .slice s_.E5 l5.length l5.length, .slice s_.E6 l6.length l6.length, .int .i64 st]), (3, .pointer (some ⟨s_.g3, 0, none⟩))]) (fun s_ w' => ownF w #[.int .u32 pa, .int .i64 pl, .int .i64 pe, .int .i64 o, .slice A1 l1.length c1, .int .u32 nx, .int .i64 md, .int .i64 pr, .slice A5 l5.length c5, .slice A6 l6.length c6, .int .i64 st] gr l1 l5 l6 true true true false s_ w') ?_ ?_
    rotate_left
    · intro hJ1_3_4
      refine join_ (σ := OwnSt) 3 #[true, true, true, true, false, true, false, false] (fun s_ => [(15, .agg #[.int .u32 pa, .int .i64 pl, .int .i64 pe, .int .i64 o, .slice s_.B1 l1.length s_.d1, .int .u32 nx, .int .i64 md, .int .i64 pr, .slice s_.B5 l5.length l5.length, .slice s_.B6 l6.length l6.length, .int .i64 st]), (17, .agg #[.int .u32 pa, .int .i64 pl, .int .i64 pe, .int .i64 o, .slice s_.E1 l1.length s_.e1, .int .u32 nx, .int .i64 md, .int .i64 pr, .slice s_.E5 l5.length l5.length, .slice s_.E6 l6.length l6.length, .int .i64 st]), (4, .pointer (some ⟨s_.g4, 0, none⟩))]) (fun s_ w' => ownF w #[.int .u32 pa, .int .i64 pl, .int .i64 pe, .int .i64 o, .slice A1 l1.length c1, .int .u32 nx, .int .i64 md, .int .i64 pr, .slice A5 l5.length c5, .slice A6 l6.length c6, .int .i64 st] gr l1 l5 l6 true true false true s_ w') ?_ ?_
      rotate_left
      · intro hJ1_3_5
        refine join_ (σ := OwnSt) 3 #[true, true, true, false, true, true, false, false] (fun s_ => [(15, .agg #[.int .u32 pa, .int .i64 pl, .int .i64 pe, .int .i64 o, .slice s_.B1 l1.length s_.d1, .int .u32 nx, .int .i64 md, .int .i64 pr, .slice s_.B5 l5.length l5.length, .slice s_.B6 l6.length l6.length, .int .i64 st]), (3, .pointer (some ⟨s_.g3, 0, none⟩)), (4, .pointer (some ⟨s_.g4, 0, none⟩))]) (fun s_ w' => ownF w #[.int .u32 pa, .int .i64 pl, .int .i64 pe, .int .i64 o, .slice A1 l1.length c1, .int .u32 nx, .int .i64 md, .int .i64 pr, .slice A5 l5.length c5, .slice A6 l6.length c6, .int .i64 st] gr l1 l5 l6 true false true true s_ w') ?_ ?_
        rotate_left
        · intro hJ1_4_5
          refine join_ (σ := OwnSt) 4 #[true, true, true, true, false, false, false, false] (fun s_ => [(15, .agg #[.int .u32 pa, .int .i64 pl, .int .i64 pe, .int .i64 o, .slice s_.B1 l1.length s_.d1, .int .u32 nx, .int .i64 md, .int .i64 pr, .slice s_.B5 l5.length l5.length, .slice s_.B6 l6.length l6.length, .int .i64 st]), (17, .agg #[.int .u32 pa, .int .i64 pl, .int .i64 pe, .int .i64 o, .slice s_.E1 l1.length s_.e1, .int .u32 nx, .int .i64 md, .int .i64 pr, .slice s_.E5 l5.length l5.length, .slice s_.E6 l6.length l6.length, .int .i64 st])]) (fun s_ w' => ownF w #[.int .u32 pa, .int .i64 pl, .int .i64 pe, .int .i64 o, .slice A1 l1.length c1, .int .u32 nx, .int .i64 md, .int .i64 pr, .slice A5 l5.length c5, .slice A6 l6.length c6, .int .i64 st] gr l1 l5 l6 true true false false s_ w') ?_ ?_
          rotate_left
          · intro hJ1_3
            refine join_ (σ := OwnSt) 4 #[true, true, true, false, true, false, false, false] (fun s_ => [(15, .agg #[.int .u32 pa, .int .i64 pl, .int .i64 pe, .int .i64 o, .slice s_.B1 l1.length s_.d1, .int .u32 nx, .int .i64 md, .int .i64 pr, .slice s_.B5 l5.length l5.length, .slice s_.B6 l6.length l6.length, .int .i64 st]), (3, .pointer (some ⟨s_.g3, 0, none⟩))]) (fun s_ w' => ownF w #[.int .u32 pa, .int .i64 pl, .int .i64 pe, .int .i64 o, .slice A1 l1.length c1, .int .u32 nx, .int .i64 md, .int .i64 pr, .slice A5 l5.length c5, .slice A6 l6.length c6, .int .i64 st] gr l1 l5 l6 true false true false s_ w') ?_ ?_
            rotate_left
            · intro hJ1_4
              refine join_ (σ := OwnSt) 4 #[true, true, true, false, false, true, false, false] (fun s_ => [(15, .agg #[.int .u32 pa, .int .i64 pl, .int .i64 pe, .int .i64 o, .slice s_.B1 l1.length s_.d1, .int .u32 nx, .int .i64 md, .int .i64 pr, .slice s_.B5 l5.length l5.length, .slice s_.B6 l6.length l6.length, .int .i64 st]), (4, .pointer (some ⟨s_.g4, 0, none⟩))]) (fun s_ w' => ownF w #[.int .u32 pa, .int .i64 pl, .int .i64 pe, .int .i64 o, .slice A1 l1.length c1, .int .u32 nx, .int .i64 md, .int .i64 pr, .slice A5 l5.length c5, .slice A6 l6.length c6, .int .i64 st] gr l1 l5 l6 true false false true s_ w') ?_ ?_
              rotate_left
              · intro hJ1_5
                refine join_ (σ := OwnSt) 4 #[true, false, true, false, true, true, false, false] (fun s_ => [(3, .pointer (some ⟨s_.g3, 0, none⟩)), (4, .pointer (some ⟨s_.g4, 0, none⟩))]) (fun s_ w' => ownF w #[.int .u32 pa, .int .i64 pl, .int .i64 pe, .int .i64 o, .slice A1 l1.length c1, .int .u32 nx, .int .i64 md, .int .i64 pr, .slice A5 l5.length c5, .slice A6 l6.length c6, .int .i64 st] gr l1 l5 l6 false false true true s_ w') ?_ ?_
                rotate_left
                · intro hJ4_5
                  refine join_ (σ := OwnSt) 5 #[true, true, true, false, false, false, false, false] (fun s_ => [(15, .agg #[.int .u32 pa, .int .i64 pl, .int .i64 pe, .int .i64 o, .slice s_.B1 l1.length s_.d1, .int .u32 nx, .int .i64 md, .int .i64 pr, .slice s_.B5 l5.length l5.length, .slice s_.B6 l6.length l6.length, .int .i64 st])]) (fun s_ w' => ownF w #[.int .u32 pa, .int .i64 pl, .int .i64 pe, .int .i64 o, .slice A1 l1.length c1, .int .u32 nx, .int .i64 md, .int .i64 pr, .slice A5 l5.length c5, .slice A6 l6.length c6, .int .i64 st] gr l1 l5 l6 true false false false s_ w') ?_ ?_
                  rotate_left
                  · intro hJ1
                    refine join_ (σ := OwnSt) 5 #[true, false, true, false, true, false, false, false] (fun s_ => [(3, .pointer (some ⟨s_.g3, 0, none⟩))]) (fun s_ w' => ownF w #[.int .u32 pa, .int .i64 pl, .int .i64 pe, .int .i64 o, .slice A1 l1.length c1, .int .u32 nx, .int .i64 md, .int .i64 pr, .slice A5 l5.length c5, .slice A6 l6.length c6, .int .i64 st] gr l1 l5 l6 false false true false s_ w') ?_ ?_
                    rotate_left
                    · intro hJ4
                      refine join_ (σ := OwnSt) 5 #[true, false, true, false, false, true, false, false] (fun s_ => [(4, .pointer (some ⟨s_.g4, 0, none⟩))]) (fun s_ w' => ownF w #[.int .u32 pa, .int .i64 pl, .int .i64 pe, .int .i64 o, .slice A1 l1.length c1, .int .u32 nx, .int .i64 md, .int .i64 pr, .slice A5 l5.length c5, .slice A6 l6.length c6, .int .i64 st] gr l1 l5 l6 false false false true s_ w') ?_ ?_
                      rotate_left
                      · intro hJ5
                        refine three_ (i := 1) (j := 4) (k := 5) (Ni := some 15) (Nj := some 3) (Nk := some 4) #[true, true, true, false, false, false, false, false] #[true, false, true, false, true, false, false, false] #[true, false, true, false, false, true, false, false] rfl rfl rfl rfl rfl rfl (by kernel_rfl) (by decide) (by decide) (by decide) (fun K hK => ?_) (fun K hK => ?_) (fun K hK => ?_)
                        · skip
                          refine goes_ Try.func37 (by kernel_rfl) rfl #[.agg #[.int .u32 pa, .int .i64 pl, .int .i64 pe, .int .i64 o, .slice A1 l1.length c1, .int .u32 nx, .int .i64 md, .int .i64 pr, .slice A5 l5.length c5, .slice A6 l6.length c6, .int .i64 st]] (by rfl) rfl rfl (by (try simp only [List.map_toArray, List.map_cons, List.map_nil]); first | done | rfl) ?_
                          refine (route_own pa pl pe o A1 c1 l1 nx md pr A5 c5 l5 A6 c6 l6 st _ (Kd.C_below HR1.out hF.out.1) HC.out.1 (Kd.C_below HR5.out hF.out.1) HC.out.2.1 (Kd.C_below HR6.out hF.out.1) HC.out.2.2 H4.out HD1.out H5.out H6.out HD.out).mono ?_
                          rintro e w1_ ⟨X1, x1, y1, X5, y5, X6, y6, rfl, hl_, hq1, hq5, hq6, hb⟩
                          have hF1 := Aside0.mk (ownF_a hF.out hl_ ⟨hq1, hq5, hq6⟩ hb)
                          clear hl_ hq1 hq5 hq6 hb
                          refine ⟨_, rfl, ?_⟩
                          refine hK.out _ _ (hF1.out.2.1) (fun hHeld => ?_)
                          clear hK K
                          refine norm_ (a' := ?_) ?_ ?_
                          rotate_left
                          · show Act.put _ (some 15) _ = _
                            simp only [Act.put, List.setIfInBounds_toArray, List.set_cons_zero, List.set_cons_succ, i64_w, i32_w]
                            rfl
                          exact norm_ (by first | (simp only [putAll, Act.put, List.setIfInBounds_toArray, List.set_cons_zero, List.set_cons_succ]; done) | (simp only [putAll, Act.put, List.setIfInBounds_toArray, List.set_cons_zero, List.set_cons_succ]; rfl)) (hJ1 { ownS0 with s1 := w1_.heap.size, B1 := X1, d1 := x1, r1 := y1, B5 := X5, r5 := y5, B6 := X6, r6 := y6 } _ hF1.out)
                        · skip
                          refine value_ (w1 := ?_) (v := ?_) (by rfl) rfl ?_ ?_
                          rotate_left 2
                          · go_simp
                            constructor
                            · rfl
                            · rfl
                          have hF1 := Aside0.mk (ownF_x hF.out)
                          refine hK.out _ _ (hF1.out.2.1) (fun hHeld => ?_)
                          clear hK K
                          refine norm_ (a' := ?_) ?_ ?_
                          rotate_left
                          · show Act.put _ (some 3) _ = _
                            simp only [Act.put, List.setIfInBounds_toArray, List.set_cons_zero, List.set_cons_succ, i64_w, i32_w]
                            rfl
                          exact norm_ (by first | (simp only [putAll, Act.put, List.setIfInBounds_toArray, List.set_cons_zero, List.set_cons_succ]; done) | (simp only [putAll, Act.put, List.setIfInBounds_toArray, List.set_cons_zero, List.set_cons_succ]; rfl)) (hJ4 { ownS0 with g3 := wD.heap.size } _ hF1.out)
                        · skip
                          refine value_ (w1 := ?_) (v := ?_) (by rfl) rfl ?_ ?_
                          rotate_left 2
                          · go_simp
                            constructor
                            · rfl
                            · rfl
                          have hF1 := Aside0.mk (ownF_y hF.out)
                          refine hK.out _ _ (hF1.out.2.1) (fun hHeld => ?_)
                          clear hK K
                          refine norm_ (a' := ?_) ?_ ?_
                          rotate_left
                          · show Act.put _ (some 4) _ = _
                            simp only [Act.put, List.setIfInBounds_toArray, List.set_cons_zero, List.set_cons_succ, i64_w, i32_w]
                            rfl
                          exact norm_ (by first | (simp only [putAll, Act.put, List.setIfInBounds_toArray, List.set_cons_zero, List.set_cons_succ]; done) | (simp only [putAll, Act.put, List.setIfInBounds_toArray, List.set_cons_zero, List.set_cons_succ]; rfl)) (hJ5 { ownS0 with g4 := wD.heap.size } _ hF1.out)
                      · skip
                        intro s_ w' hF0
                        have hF := Aside0.mk hF0
                        have hHeld := hF0.2.1
                        clear hF0
                        refine norm_ (a' := ?_) ?_ ?_
                        rotate_left
                        · simp only [putAll, Act.put, List.setIfInBounds_toArray, List.set_cons_zero, List.set_cons_succ]
                          rfl
                        refine two_ (i := 1) (j := 4) (Ni := some 15) (Nj := some 3) #[true, true, true, false, false, true, false, false] #[true, false, true, false, true, true, false, false] rfl rfl rfl rfl (by kernel_rfl) (by decide) (by decide) (fun K hK => ?_) (fun K hK => ?_)
                        · skip
                          refine goes_ Try.func37 (by kernel_rfl) rfl #[.agg #[.int .u32 pa, .int .i64 pl, .int .i64 pe, .int .i64 o, .slice A1 l1.length c1, .int .u32 nx, .int .i64 md, .int .i64 pr, .slice A5 l5.length c5, .slice A6 l6.length c6, .int .i64 st]] (by rfl) rfl rfl (by (try simp only [List.map_toArray, List.map_cons, List.map_nil]); first | done | rfl) ?_
                          refine (route_own pa pl pe o A1 c1 l1 nx md pr A5 c5 l5 A6 c6 l6 st _ (Kd.C_below HR1.out hF.out.1) HC.out.1 (Kd.C_below HR5.out hF.out.1) HC.out.2.1 (Kd.C_below HR6.out hF.out.1) HC.out.2.2 H4.out HD1.out H5.out H6.out HD.out).mono ?_
                          rintro e w1_ ⟨X1, x1, y1, X5, y5, X6, y6, rfl, hl_, hq1, hq5, hq6, hb⟩
                          have hF1 := Aside0.mk (ownF_a hF.out hl_ ⟨hq1, hq5, hq6⟩ hb)
                          clear hl_ hq1 hq5 hq6 hb
                          refine ⟨_, rfl, ?_⟩
                          refine hK.out _ _ (hF1.out.2.1) (fun hHeld => ?_)
                          clear hK K
                          refine norm_ (a' := ?_) ?_ ?_
                          rotate_left
                          · show Act.put _ (some 15) _ = _
                            simp only [Act.put, List.setIfInBounds_toArray, List.set_cons_zero, List.set_cons_succ, i64_w, i32_w]
                            rfl
                          exact norm_ (by first | (simp only [putAll, Act.put, List.setIfInBounds_toArray, List.set_cons_zero, List.set_cons_succ]; done) | (simp only [putAll, Act.put, List.setIfInBounds_toArray, List.set_cons_zero, List.set_cons_succ]; rfl)) (hJ1_5 { s_ with s1 := w1_.heap.size, B1 := X1, d1 := x1, r1 := y1, B5 := X5, r5 := y5, B6 := X6, r6 := y6 } _ hF1.out)
                        · skip
                          refine value_ (w1 := ?_) (v := ?_) (by rfl) rfl ?_ ?_
                          rotate_left 2
                          · go_simp
                            constructor
                            · rfl
                            · rfl
                          have hF1 := Aside0.mk (ownF_x hF.out)
                          refine hK.out _ _ (hF1.out.2.1) (fun hHeld => ?_)
                          clear hK K
                          refine norm_ (a' := ?_) ?_ ?_
                          rotate_left
                          · show Act.put _ (some 3) _ = _
                            simp only [Act.put, List.setIfInBounds_toArray, List.set_cons_zero, List.set_cons_succ, i64_w, i32_w]
                            rfl
                          exact norm_ (by first | (simp only [putAll, Act.put, List.setIfInBounds_toArray, List.set_cons_zero, List.set_cons_succ]; done) | (simp only [putAll, Act.put, List.setIfInBounds_toArray, List.set_cons_zero, List.set_cons_succ]; rfl)) (hJ4_5 { s_ with g3 := w'.heap.size } _ hF1.out)
                    · skip
                      intro s_ w' hF0
                      have hF := Aside0.mk hF0
                      have hHeld := hF0.2.1
                      clear hF0
                      refine norm_ (a' := ?_) ?_ ?_
                      rotate_left
                      · simp only [putAll, Act.put, List.setIfInBounds_toArray, List.set_cons_zero, List.set_cons_succ]
                        rfl
                      refine two_ (i := 1) (j := 5) (Ni := some 15) (Nj := some 4) #[true, true, true, false, true, false, false, false] #[true, false, true, false, true, true, false, false] rfl rfl rfl rfl (by kernel_rfl) (by decide) (by decide) (fun K hK => ?_) (fun K hK => ?_)
                      · skip
                        refine goes_ Try.func37 (by kernel_rfl) rfl #[.agg #[.int .u32 pa, .int .i64 pl, .int .i64 pe, .int .i64 o, .slice A1 l1.length c1, .int .u32 nx, .int .i64 md, .int .i64 pr, .slice A5 l5.length c5, .slice A6 l6.length c6, .int .i64 st]] (by rfl) rfl rfl (by (try simp only [List.map_toArray, List.map_cons, List.map_nil]); first | done | rfl) ?_
                        refine (route_own pa pl pe o A1 c1 l1 nx md pr A5 c5 l5 A6 c6 l6 st _ (Kd.C_below HR1.out hF.out.1) HC.out.1 (Kd.C_below HR5.out hF.out.1) HC.out.2.1 (Kd.C_below HR6.out hF.out.1) HC.out.2.2 H4.out HD1.out H5.out H6.out HD.out).mono ?_
                        rintro e w1_ ⟨X1, x1, y1, X5, y5, X6, y6, rfl, hl_, hq1, hq5, hq6, hb⟩
                        have hF1 := Aside0.mk (ownF_a hF.out hl_ ⟨hq1, hq5, hq6⟩ hb)
                        clear hl_ hq1 hq5 hq6 hb
                        refine ⟨_, rfl, ?_⟩
                        refine hK.out _ _ (hF1.out.2.1) (fun hHeld => ?_)
                        clear hK K
                        refine norm_ (a' := ?_) ?_ ?_
                        rotate_left
                        · show Act.put _ (some 15) _ = _
                          simp only [Act.put, List.setIfInBounds_toArray, List.set_cons_zero, List.set_cons_succ, i64_w, i32_w]
                          rfl
                        exact norm_ (by first | (simp only [putAll, Act.put, List.setIfInBounds_toArray, List.set_cons_zero, List.set_cons_succ]; done) | (simp only [putAll, Act.put, List.setIfInBounds_toArray, List.set_cons_zero, List.set_cons_succ]; rfl)) (hJ1_4 { s_ with s1 := w1_.heap.size, B1 := X1, d1 := x1, r1 := y1, B5 := X5, r5 := y5, B6 := X6, r6 := y6 } _ hF1.out)
                      · skip
                        refine value_ (w1 := ?_) (v := ?_) (by rfl) rfl ?_ ?_
                        rotate_left 2
                        · go_simp
                          constructor
                          · rfl
                          · rfl
                        have hF1 := Aside0.mk (ownF_y hF.out)
                        refine hK.out _ _ (hF1.out.2.1) (fun hHeld => ?_)
                        clear hK K
                        refine norm_ (a' := ?_) ?_ ?_
                        rotate_left
                        · show Act.put _ (some 4) _ = _
                          simp only [Act.put, List.setIfInBounds_toArray, List.set_cons_zero, List.set_cons_succ, i64_w, i32_w]
                          rfl
                        exact norm_ (by first | (simp only [putAll, Act.put, List.setIfInBounds_toArray, List.set_cons_zero, List.set_cons_succ]; done) | (simp only [putAll, Act.put, List.setIfInBounds_toArray, List.set_cons_zero, List.set_cons_succ]; rfl)) (hJ4_5 { s_ with g4 := w'.heap.size } _ hF1.out)
                  · skip
                    intro s_ w' hF0
                    have hF := Aside0.mk hF0
                    have hHeld := hF0.2.1
                    clear hF0
                    refine norm_ (a' := ?_) ?_ ?_
                    rotate_left
                    · simp only [putAll, Act.put, List.setIfInBounds_toArray, List.set_cons_zero, List.set_cons_succ]
                      rfl
                    refine three_ (i := 3) (j := 4) (k := 5) (Ni := some 17) (Nj := some 3) (Nk := some 4) #[true, true, true, true, false, false, false, false] #[true, true, true, false, true, false, false, false] #[true, true, true, false, false, true, false, false] rfl rfl rfl rfl rfl rfl (by kernel_rfl) (by decide) (by decide) (by decide) (fun K hK => ?_) (fun K hK => ?_) (fun K hK => ?_)
                    · skip
                      refine goes_ Try.func37 (by kernel_rfl) rfl #[.agg #[.int .u32 pa, .int .i64 pl, .int .i64 pe, .int .i64 o, .slice A1 l1.length c1, .int .u32 nx, .int .i64 md, .int .i64 pr, .slice A5 l5.length c5, .slice A6 l6.length c6, .int .i64 st]] (by rfl) rfl rfl (by (try simp only [List.map_toArray, List.map_cons, List.map_nil]); first | done | rfl) ?_
                      refine (route_own pa pl pe o A1 c1 l1 nx md pr A5 c5 l5 A6 c6 l6 st _ (Kd.C_below HR1.out hF.out.1) HC.out.1 (Kd.C_below HR5.out hF.out.1) HC.out.2.1 (Kd.C_below HR6.out hF.out.1) HC.out.2.2 H4.out HD1.out H5.out H6.out HD.out).mono ?_
                      rintro e w1_ ⟨X1, x1, y1, X5, y5, X6, y6, rfl, hl_, hq1, hq5, hq6, hb⟩
                      have hF1 := Aside0.mk (ownF_b hF.out hl_ ⟨hq1, hq5, hq6⟩ hb)
                      clear hl_ hq1 hq5 hq6 hb
                      refine ⟨_, rfl, ?_⟩
                      refine hK.out _ _ (hF1.out.2.1) (fun hHeld => ?_)
                      clear hK K
                      refine norm_ (a' := ?_) ?_ ?_
                      rotate_left
                      · show Act.put _ (some 17) _ = _
                        simp only [Act.put, List.setIfInBounds_toArray, List.set_cons_zero, List.set_cons_succ, i64_w, i32_w]
                        rfl
                      exact norm_ (by first | (simp only [putAll, Act.put, List.setIfInBounds_toArray, List.set_cons_zero, List.set_cons_succ]; done) | (simp only [putAll, Act.put, List.setIfInBounds_toArray, List.set_cons_zero, List.set_cons_succ]; rfl)) (hJ1_3 { s_ with E1 := X1, e1 := x1, q1 := y1, E5 := X5, q5 := y5, E6 := X6, q6 := y6 } _ hF1.out)
                    · skip
                      refine value_ (w1 := ?_) (v := ?_) (by rfl) rfl ?_ ?_
                      rotate_left 2
                      · go_simp
                        constructor
                        · rfl
                        · rfl
                      have hF1 := Aside0.mk (ownF_x hF.out)
                      refine hK.out _ _ (hF1.out.2.1) (fun hHeld => ?_)
                      clear hK K
                      refine norm_ (a' := ?_) ?_ ?_
                      rotate_left
                      · show Act.put _ (some 3) _ = _
                        simp only [Act.put, List.setIfInBounds_toArray, List.set_cons_zero, List.set_cons_succ, i64_w, i32_w]
                        rfl
                      exact norm_ (by first | (simp only [putAll, Act.put, List.setIfInBounds_toArray, List.set_cons_zero, List.set_cons_succ]; done) | (simp only [putAll, Act.put, List.setIfInBounds_toArray, List.set_cons_zero, List.set_cons_succ]; rfl)) (hJ1_4 { s_ with g3 := w'.heap.size } _ hF1.out)
                    · skip
                      refine value_ (w1 := ?_) (v := ?_) (by rfl) rfl ?_ ?_
                      rotate_left 2
                      · go_simp
                        constructor
                        · rfl
                        · rfl
                      have hF1 := Aside0.mk (ownF_y hF.out)
                      refine hK.out _ _ (hF1.out.2.1) (fun hHeld => ?_)
                      clear hK K
                      refine norm_ (a' := ?_) ?_ ?_
                      rotate_left
                      · show Act.put _ (some 4) _ = _
                        simp only [Act.put, List.setIfInBounds_toArray, List.set_cons_zero, List.set_cons_succ, i64_w, i32_w]
                        rfl
                      exact norm_ (by first | (simp only [putAll, Act.put, List.setIfInBounds_toArray, List.set_cons_zero, List.set_cons_succ]; done) | (simp only [putAll, Act.put, List.setIfInBounds_toArray, List.set_cons_zero, List.set_cons_succ]; rfl)) (hJ1_5 { s_ with g4 := w'.heap.size } _ hF1.out)
                · skip
                  intro s_ w' hF0
                  have hF := Aside0.mk hF0
                  have hHeld := hF0.2.1
                  clear hF0
                  refine norm_ (a' := ?_) ?_ ?_
                  rotate_left
                  · simp only [putAll, Act.put, List.setIfInBounds_toArray, List.set_cons_zero, List.set_cons_succ]
                    rfl
                  refine one_ (i := 1) (N := some 15) #[true, true, true, false, true, true, false, false] rfl rfl (by kernel_rfl) (by decide) (fun K hK => ?_)
                  refine goes_ Try.func37 (by kernel_rfl) rfl #[.agg #[.int .u32 pa, .int .i64 pl, .int .i64 pe, .int .i64 o, .slice A1 l1.length c1, .int .u32 nx, .int .i64 md, .int .i64 pr, .slice A5 l5.length c5, .slice A6 l6.length c6, .int .i64 st]] (by rfl) rfl rfl (by (try simp only [List.map_toArray, List.map_cons, List.map_nil]); first | done | rfl) ?_
                  refine (route_own pa pl pe o A1 c1 l1 nx md pr A5 c5 l5 A6 c6 l6 st _ (Kd.C_below HR1.out hF.out.1) HC.out.1 (Kd.C_below HR5.out hF.out.1) HC.out.2.1 (Kd.C_below HR6.out hF.out.1) HC.out.2.2 H4.out HD1.out H5.out H6.out HD.out).mono ?_
                  rintro e w1_ ⟨X1, x1, y1, X5, y5, X6, y6, rfl, hl_, hq1, hq5, hq6, hb⟩
                  have hF1 := Aside0.mk (ownF_a hF.out hl_ ⟨hq1, hq5, hq6⟩ hb)
                  clear hl_ hq1 hq5 hq6 hb
                  refine ⟨_, rfl, ?_⟩
                  refine hK.out _ _ (hF1.out.2.1) (fun hHeld => ?_)
                  clear hK K
                  refine norm_ (a' := ?_) ?_ ?_
                  rotate_left
                  · show Act.put _ (some 15) _ = _
                    simp only [Act.put, List.setIfInBounds_toArray, List.set_cons_zero, List.set_cons_succ, i64_w, i32_w]
                    rfl
                  exact norm_ (by first | (simp only [putAll, Act.put, List.setIfInBounds_toArray, List.set_cons_zero, List.set_cons_succ]; done) | (simp only [putAll, Act.put, List.setIfInBounds_toArray, List.set_cons_zero, List.set_cons_succ]; rfl)) (hJ1_4_5 { s_ with s1 := w1_.heap.size, B1 := X1, d1 := x1, r1 := y1, B5 := X5, r5 := y5, B6 := X6, r6 := y6 } _ hF1.out)
              · skip
                intro s_ w' hF0
                have hF := Aside0.mk hF0
                have hHeld := hF0.2.1
                clear hF0
                refine norm_ (a' := ?_) ?_ ?_
                rotate_left
                · simp only [putAll, Act.put, List.setIfInBounds_toArray, List.set_cons_zero, List.set_cons_succ]
                  rfl
                refine two_ (i := 3) (j := 4) (Ni := some 17) (Nj := some 3) #[true, true, true, true, false, true, false, false] #[true, true, true, false, true, true, false, false] rfl rfl rfl rfl (by kernel_rfl) (by decide) (by decide) (fun K hK => ?_) (fun K hK => ?_)
                · skip
                  refine goes_ Try.func37 (by kernel_rfl) rfl #[.agg #[.int .u32 pa, .int .i64 pl, .int .i64 pe, .int .i64 o, .slice A1 l1.length c1, .int .u32 nx, .int .i64 md, .int .i64 pr, .slice A5 l5.length c5, .slice A6 l6.length c6, .int .i64 st]] (by rfl) rfl rfl (by (try simp only [List.map_toArray, List.map_cons, List.map_nil]); first | done | rfl) ?_
                  refine (route_own pa pl pe o A1 c1 l1 nx md pr A5 c5 l5 A6 c6 l6 st _ (Kd.C_below HR1.out hF.out.1) HC.out.1 (Kd.C_below HR5.out hF.out.1) HC.out.2.1 (Kd.C_below HR6.out hF.out.1) HC.out.2.2 H4.out HD1.out H5.out H6.out HD.out).mono ?_
                  rintro e w1_ ⟨X1, x1, y1, X5, y5, X6, y6, rfl, hl_, hq1, hq5, hq6, hb⟩
                  have hF1 := Aside0.mk (ownF_b hF.out hl_ ⟨hq1, hq5, hq6⟩ hb)
                  clear hl_ hq1 hq5 hq6 hb
                  refine ⟨_, rfl, ?_⟩
                  refine hK.out _ _ (hF1.out.2.1) (fun hHeld => ?_)
                  clear hK K
                  refine norm_ (a' := ?_) ?_ ?_
                  rotate_left
                  · show Act.put _ (some 17) _ = _
                    simp only [Act.put, List.setIfInBounds_toArray, List.set_cons_zero, List.set_cons_succ, i64_w, i32_w]
                    rfl
                  exact norm_ (by first | (simp only [putAll, Act.put, List.setIfInBounds_toArray, List.set_cons_zero, List.set_cons_succ]; done) | (simp only [putAll, Act.put, List.setIfInBounds_toArray, List.set_cons_zero, List.set_cons_succ]; rfl)) (hJ1_3_5 { s_ with E1 := X1, e1 := x1, q1 := y1, E5 := X5, q5 := y5, E6 := X6, q6 := y6 } _ hF1.out)
                · skip
                  refine value_ (w1 := ?_) (v := ?_) (by rfl) rfl ?_ ?_
                  rotate_left 2
                  · go_simp
                    constructor
                    · rfl
                    · rfl
                  have hF1 := Aside0.mk (ownF_x hF.out)
                  refine hK.out _ _ (hF1.out.2.1) (fun hHeld => ?_)
                  clear hK K
                  refine norm_ (a' := ?_) ?_ ?_
                  rotate_left
                  · show Act.put _ (some 3) _ = _
                    simp only [Act.put, List.setIfInBounds_toArray, List.set_cons_zero, List.set_cons_succ, i64_w, i32_w]
                    rfl
                  exact norm_ (by first | (simp only [putAll, Act.put, List.setIfInBounds_toArray, List.set_cons_zero, List.set_cons_succ]; done) | (simp only [putAll, Act.put, List.setIfInBounds_toArray, List.set_cons_zero, List.set_cons_succ]; rfl)) (hJ1_4_5 { s_ with g3 := w'.heap.size } _ hF1.out)
            · skip
              intro s_ w' hF0
              have hF := Aside0.mk hF0
              have hHeld := hF0.2.1
              clear hF0
              refine norm_ (a' := ?_) ?_ ?_
              rotate_left
              · simp only [putAll, Act.put, List.setIfInBounds_toArray, List.set_cons_zero, List.set_cons_succ]
                rfl
              refine two_ (i := 3) (j := 5) (Ni := some 17) (Nj := some 4) #[true, true, true, true, true, false, false, false] #[true, true, true, false, true, true, false, false] rfl rfl rfl rfl (by kernel_rfl) (by decide) (by decide) (fun K hK => ?_) (fun K hK => ?_)
              · skip
                refine goes_ Try.func37 (by kernel_rfl) rfl #[.agg #[.int .u32 pa, .int .i64 pl, .int .i64 pe, .int .i64 o, .slice A1 l1.length c1, .int .u32 nx, .int .i64 md, .int .i64 pr, .slice A5 l5.length c5, .slice A6 l6.length c6, .int .i64 st]] (by rfl) rfl rfl (by (try simp only [List.map_toArray, List.map_cons, List.map_nil]); first | done | rfl) ?_
                refine (route_own pa pl pe o A1 c1 l1 nx md pr A5 c5 l5 A6 c6 l6 st _ (Kd.C_below HR1.out hF.out.1) HC.out.1 (Kd.C_below HR5.out hF.out.1) HC.out.2.1 (Kd.C_below HR6.out hF.out.1) HC.out.2.2 H4.out HD1.out H5.out H6.out HD.out).mono ?_
                rintro e w1_ ⟨X1, x1, y1, X5, y5, X6, y6, rfl, hl_, hq1, hq5, hq6, hb⟩
                have hF1 := Aside0.mk (ownF_b hF.out hl_ ⟨hq1, hq5, hq6⟩ hb)
                clear hl_ hq1 hq5 hq6 hb
                refine ⟨_, rfl, ?_⟩
                refine hK.out _ _ (hF1.out.2.1) (fun hHeld => ?_)
                clear hK K
                refine norm_ (a' := ?_) ?_ ?_
                rotate_left
                · show Act.put _ (some 17) _ = _
                  simp only [Act.put, List.setIfInBounds_toArray, List.set_cons_zero, List.set_cons_succ, i64_w, i32_w]
                  rfl
                exact norm_ (by first | (simp only [putAll, Act.put, List.setIfInBounds_toArray, List.set_cons_zero, List.set_cons_succ]; done) | (simp only [putAll, Act.put, List.setIfInBounds_toArray, List.set_cons_zero, List.set_cons_succ]; rfl)) (hJ1_3_4 { s_ with E1 := X1, e1 := x1, q1 := y1, E5 := X5, q5 := y5, E6 := X6, q6 := y6 } _ hF1.out)
              · skip
                refine value_ (w1 := ?_) (v := ?_) (by rfl) rfl ?_ ?_
                rotate_left 2
                · go_simp
                  constructor
                  · rfl
                  · rfl
                have hF1 := Aside0.mk (ownF_y hF.out)
                refine hK.out _ _ (hF1.out.2.1) (fun hHeld => ?_)
                clear hK K
                refine norm_ (a' := ?_) ?_ ?_
                rotate_left
                · show Act.put _ (some 4) _ = _
                  simp only [Act.put, List.setIfInBounds_toArray, List.set_cons_zero, List.set_cons_succ, i64_w, i32_w]
                  rfl
                exact norm_ (by first | (simp only [putAll, Act.put, List.setIfInBounds_toArray, List.set_cons_zero, List.set_cons_succ]; done) | (simp only [putAll, Act.put, List.setIfInBounds_toArray, List.set_cons_zero, List.set_cons_succ]; rfl)) (hJ1_4_5 { s_ with g4 := w'.heap.size } _ hF1.out)
          · skip
            intro s_ w' hF0
            have hF := Aside0.mk hF0
            have hHeld := hF0.2.1
            clear hF0
            refine norm_ (a' := ?_) ?_ ?_
            rotate_left
            · simp only [putAll, Act.put, List.setIfInBounds_toArray, List.set_cons_zero, List.set_cons_succ]
              rfl
            refine two_ (i := 4) (j := 5) (Ni := some 3) (Nj := some 4) #[true, true, true, true, true, false, false, false] #[true, true, true, true, false, true, false, false] rfl rfl rfl rfl (by kernel_rfl) (by decide) (by decide) (fun K hK => ?_) (fun K hK => ?_)
            · skip
              refine value_ (w1 := ?_) (v := ?_) (by rfl) rfl ?_ ?_
              rotate_left 2
              · go_simp
                constructor
                · rfl
                · rfl
              have hF1 := Aside0.mk (ownF_x hF.out)
              refine hK.out _ _ (hF1.out.2.1) (fun hHeld => ?_)
              clear hK K
              refine norm_ (a' := ?_) ?_ ?_
              rotate_left
              · show Act.put _ (some 3) _ = _
                simp only [Act.put, List.setIfInBounds_toArray, List.set_cons_zero, List.set_cons_succ, i64_w, i32_w]
                rfl
              exact norm_ (by first | (simp only [putAll, Act.put, List.setIfInBounds_toArray, List.set_cons_zero, List.set_cons_succ]; done) | (simp only [putAll, Act.put, List.setIfInBounds_toArray, List.set_cons_zero, List.set_cons_succ]; rfl)) (hJ1_3_4 { s_ with g3 := w'.heap.size } _ hF1.out)
            · skip
              refine value_ (w1 := ?_) (v := ?_) (by rfl) rfl ?_ ?_
              rotate_left 2
              · go_simp
                constructor
                · rfl
                · rfl
              have hF1 := Aside0.mk (ownF_y hF.out)
              refine hK.out _ _ (hF1.out.2.1) (fun hHeld => ?_)
              clear hK K
              refine norm_ (a' := ?_) ?_ ?_
              rotate_left
              · show Act.put _ (some 4) _ = _
                simp only [Act.put, List.setIfInBounds_toArray, List.set_cons_zero, List.set_cons_succ, i64_w, i32_w]
                rfl
              exact norm_ (by first | (simp only [putAll, Act.put, List.setIfInBounds_toArray, List.set_cons_zero, List.set_cons_succ]; done) | (simp only [putAll, Act.put, List.setIfInBounds_toArray, List.set_cons_zero, List.set_cons_succ]; rfl)) (hJ1_3_5 { s_ with g4 := w'.heap.size } _ hF1.out)
        · skip
          intro s_ w' hF0
          have hF := Aside0.mk hF0
          have hHeld := hF0.2.1
          clear hF0
          refine norm_ (a' := ?_) ?_ ?_
          rotate_left
          · simp only [putAll, Act.put, List.setIfInBounds_toArray, List.set_cons_zero, List.set_cons_succ]
            rfl
          refine one_ (i := 3) (N := some 17) #[true, true, true, true, true, true, false, false] rfl rfl (by kernel_rfl) (by decide) (fun K hK => ?_)
          refine goes_ Try.func37 (by kernel_rfl) rfl #[.agg #[.int .u32 pa, .int .i64 pl, .int .i64 pe, .int .i64 o, .slice A1 l1.length c1, .int .u32 nx, .int .i64 md, .int .i64 pr, .slice A5 l5.length c5, .slice A6 l6.length c6, .int .i64 st]] (by rfl) rfl rfl (by (try simp only [List.map_toArray, List.map_cons, List.map_nil]); first | done | rfl) ?_
          refine (route_own pa pl pe o A1 c1 l1 nx md pr A5 c5 l5 A6 c6 l6 st _ (Kd.C_below HR1.out hF.out.1) HC.out.1 (Kd.C_below HR5.out hF.out.1) HC.out.2.1 (Kd.C_below HR6.out hF.out.1) HC.out.2.2 H4.out HD1.out H5.out H6.out HD.out).mono ?_
          rintro e w1_ ⟨X1, x1, y1, X5, y5, X6, y6, rfl, hl_, hq1, hq5, hq6, hb⟩
          have hF1 := Aside0.mk (ownF_b hF.out hl_ ⟨hq1, hq5, hq6⟩ hb)
          clear hl_ hq1 hq5 hq6 hb
          refine ⟨_, rfl, ?_⟩
          refine hK.out _ _ (hF1.out.2.1) (fun hHeld => ?_)
          clear hK K
          refine norm_ (a' := ?_) ?_ ?_
          rotate_left
          · show Act.put _ (some 17) _ = _
            simp only [Act.put, List.setIfInBounds_toArray, List.set_cons_zero, List.set_cons_succ, i64_w, i32_w]
            rfl
          exact norm_ (by first | (simp only [putAll, Act.put, List.setIfInBounds_toArray, List.set_cons_zero, List.set_cons_succ]; done) | (simp only [putAll, Act.put, List.setIfInBounds_toArray, List.set_cons_zero, List.set_cons_succ]; rfl)) (hJ1_3_4_5 { s_ with E1 := X1, e1 := x1, q1 := y1, E5 := X5, q5 := y5, E6 := X6, q6 := y6 } _ hF1.out)
      · skip
        intro s_ w' hF0
        have hF := Aside0.mk hF0
        have hHeld := hF0.2.1
        clear hF0
        refine norm_ (a' := ?_) ?_ ?_
        rotate_left
        · simp only [putAll, Act.put, List.setIfInBounds_toArray, List.set_cons_zero, List.set_cons_succ]
          rfl
        refine one_ (i := 4) (N := some 3) #[true, true, true, true, true, true, false, false] rfl rfl (by kernel_rfl) (by decide) (fun K hK => ?_)
        refine value_ (w1 := ?_) (v := ?_) (by rfl) rfl ?_ ?_
        rotate_left 2
        · go_simp
          constructor
          · rfl
          · rfl
        have hF1 := Aside0.mk (ownF_x hF.out)
        refine hK.out _ _ (hF1.out.2.1) (fun hHeld => ?_)
        clear hK K
        refine norm_ (a' := ?_) ?_ ?_
        rotate_left
        · show Act.put _ (some 3) _ = _
          simp only [Act.put, List.setIfInBounds_toArray, List.set_cons_zero, List.set_cons_succ, i64_w, i32_w]
          rfl
        exact norm_ (by first | (simp only [putAll, Act.put, List.setIfInBounds_toArray, List.set_cons_zero, List.set_cons_succ]; done) | (simp only [putAll, Act.put, List.setIfInBounds_toArray, List.set_cons_zero, List.set_cons_succ]; rfl)) (hJ1_3_4_5 { s_ with g3 := w'.heap.size } _ hF1.out)
    · skip
      intro s_ w' hF0
      have hF := Aside0.mk hF0
      have hHeld := hF0.2.1
      clear hF0
      refine norm_ (a' := ?_) ?_ ?_
      rotate_left
      · simp only [putAll, Act.put, List.setIfInBounds_toArray, List.set_cons_zero, List.set_cons_succ]
        rfl
      refine one_ (i := 5) (N := some 4) #[true, true, true, true, true, true, false, false] rfl rfl (by kernel_rfl) (by decide) (fun K hK => ?_)
      refine value_ (w1 := ?_) (v := ?_) (by rfl) rfl ?_ ?_
      rotate_left 2
      · go_simp
        constructor
        · rfl
        · rfl
      have hF1 := Aside0.mk (ownF_y hF.out)
      refine hK.out _ _ (hF1.out.2.1) (fun hHeld => ?_)
      clear hK K
      refine norm_ (a' := ?_) ?_ ?_
      rotate_left
      · show Act.put _ (some 4) _ = _
        simp only [Act.put, List.setIfInBounds_toArray, List.set_cons_zero, List.set_cons_succ, i64_w, i32_w]
        rfl
      exact norm_ (by first | (simp only [putAll, Act.put, List.setIfInBounds_toArray, List.set_cons_zero, List.set_cons_succ]; done) | (simp only [putAll, Act.put, List.setIfInBounds_toArray, List.set_cons_zero, List.set_cons_succ]; rfl)) (hJ1_3_4_5 { s_ with g4 := w'.heap.size } _ hF1.out)
  intro s_ w' hF0
  have hF := Aside0.mk hF0
  have hHeld := hF0.2.1
  clear hF0
  refine norm_ (a' := ?_) ?_ ?_
  rotate_left
  · simp only [putAll, Act.put, List.setIfInBounds_toArray, List.set_cons_zero, List.set_cons_succ]
    rfl
  refine one_ (i := 6) (N := none) #[true, true, true, true, true, true, true, false] rfl rfl (by kernel_rfl) (by decide) (fun K hK => ?_)
  refine store_new_step (by rfl) rfl 48 (.tmp 3) (.tmp 15) rfl [.int .u32 pa, .int .i64 pl, .int .i64 pe, .int .i64 o, .slice s_.B1 l1.length s_.d1, .int .u32 nx, .int .i64 md, .int .i64 pr, .slice s_.B5 l5.length l5.length, .slice s_.B6 l6.length l6.length, .int .i64 st] (by rfl) (by rfl) (hF.out.2.2.1 rfl).2.1 (by rfl) (by kernel_rfl) (by intro v hv; simp only [List.mem_cons, List.not_mem_nil, or_false] at hv; rcases hv with rfl | rfl | rfl | rfl | rfl | rfl | rfl | rfl | rfl | rfl | rfl <;> rfl) ?_
  intro w7 hx hg hs
  have BKR7 := Aside0.mk ((hg.block _ (blk_lt hF.out.2.1) (fun e => (hF.out.2.2.1 rfl).2.2 (by injection e with e; exact e.symm))).trans hF.out.2.1)
  have BK37 := Aside0.mk hx
  have BK47 := Aside0.mk ((hg.block _ (blk_lt (hF.out.2.2.2.1 rfl).2.1) (fun e => hF.out.2.2.2.2.1 rfl rfl (by injection e with e; exact e.symm))).trans (hF.out.2.2.2.1 rfl).2.1)
  have HB7 := Aside0.mk (hF.out.1.grown hg hF.out.1.size (fun k e => by injection e with e; have := (hF.out.2.2.1 rfl).1; omega))
  have RA7 := Aside0.mk ((hF.out.2.2.2.2.2.1 rfl).2.2.grown hg (hF.out.2.2.1 rfl).2.1)
  have RB7 := Aside0.mk ((hF.out.2.2.2.2.2.2 rfl).2.grown hg (hF.out.2.2.1 rfl).2.1)
  clear hx hg hs
  refine hK.out _ _ (BKR7.out) (fun hHeld => ?_)
  clear hK K
  refine one_ (i := 7) (N := none) #[true, true, true, true, true, true, true, true] rfl rfl (by kernel_rfl) (by decide) (fun K hK => ?_)
  refine store_new_step (by rfl) rfl 48 (.tmp 4) (.tmp 17) rfl [.int .u32 pa, .int .i64 pl, .int .i64 pe, .int .i64 o, .slice s_.E1 l1.length s_.e1, .int .u32 nx, .int .i64 md, .int .i64 pr, .slice s_.E5 l5.length l5.length, .slice s_.E6 l6.length l6.length, .int .i64 st] (by rfl) (by rfl) BK47.out (by rfl) (by kernel_rfl) (by intro v hv; simp only [List.mem_cons, List.not_mem_nil, or_false] at hv; rcases hv with rfl | rfl | rfl | rfl | rfl | rfl | rfl | rfl | rfl | rfl | rfl <;> rfl) ?_
  intro w8 hx hg hs
  have BKR8 := Aside0.mk ((hg.block _ (blk_lt BKR7.out) (fun e => (hF.out.2.2.2.1 rfl).2.2 (by injection e with e; exact e.symm))).trans BKR7.out)
  have BK38 := Aside0.mk ((hg.block _ (blk_lt BK37.out) (fun e => hF.out.2.2.2.2.1 rfl rfl (by injection e with e))).trans BK37.out)
  have BK48 := Aside0.mk hx
  have HB8 := Aside0.mk (HB7.out.grown hg HB7.out.size (fun k e => by injection e with e; have := (hF.out.2.2.2.1 rfl).1; omega))
  have RA8 := Aside0.mk (RA7.out.grown hg BK47.out)
  have RB8 := Aside0.mk (RB7.out.grown hg BK47.out)
  clear hx hg hs
  refine hK.out _ _ (BKR8.out) (fun hHeld => ?_)
  clear hK K
  refine done_ (by kernel_rfl) ?_
  have HLA := Aside0.mk (hF.out.2.2.2.2.2.1 rfl).1
  have HLB := Aside0.mk (hF.out.2.2.2.2.2.2 rfl).1
  have HAF := Aside0.mk (show writF w #[.int .u32 pa, .int .i64 pl, .int .i64 pe, .int .i64 o, .slice A1 l1.length c1, .int .u32 nx, .int .i64 md, .int .i64 pr, .slice A5 l5.length c5, .slice A6 l6.length c6, .int .i64 st] #[.int .u32 pa, .int .i64 pl, .int .i64 pe, .int .i64 o, .slice s_.B1 l1.length s_.d1, .int .u32 nx, .int .i64 md, .int .i64 pr, .slice s_.B5 l5.length l5.length, .slice s_.B6 l6.length l6.length, .int .i64 st] #[.int .u32 pa, .int .i64 pl, .int .i64 pe, .int .i64 o, .slice s_.E1 l1.length s_.e1, .int .u32 nx, .int .i64 md, .int .i64 pr, .slice s_.E5 l5.length l5.length, .slice s_.E6 l6.length l6.length, .int .i64 st] gr s_.g3 s_.g4 s_.s1 s_.B1 s_.r1 (segSh l1) s_.B5 l5.length s_.B6 s_.r6 (rawSh l6) s_.E1 s_.q1 l1 s_.E5 s_.q5 l5 s_.E6 s_.q6 l6 w8 from ⟨HB8.out, BKR8.out, BK38.out, BK48.out, RA8.out.shapes, RB8.out⟩)
  clear hF hHeld HB8 BKR8 BK38 BK48 RA8 RB8 HB7 BKR7 BK37 BK47 RA7 RB7 HB BKR1 HB1 BKR HB3
  generalize s_.g3 = g3 at HLA HLB HAF ⊢
  generalize s_.g4 = g4 at HLA HLB HAF ⊢
  generalize s_.s1 = s1 at HLA HLB HAF ⊢
  generalize s_.B1 = B1 at HLA HLB HAF ⊢
  generalize s_.d1 = d1 at HLA HLB HAF ⊢
  generalize s_.r1 = r1 at HLA HLB HAF ⊢
  generalize s_.B5 = B5 at HLA HLB HAF ⊢
  generalize s_.r5 = r5 at HLA HLB HAF ⊢
  generalize s_.B6 = B6 at HLA HLB HAF ⊢
  generalize s_.r6 = r6 at HLA HLB HAF ⊢
  generalize s_.E1 = E1 at HLA HLB HAF ⊢
  generalize s_.e1 = e1 at HLA HLB HAF ⊢
  generalize s_.q1 = q1 at HLA HLB HAF ⊢
  generalize s_.E5 = E5 at HLA HLB HAF ⊢
  generalize s_.q5 = q5 at HLA HLB HAF ⊢
  generalize s_.E6 = E6 at HLA HLB HAF ⊢
  generalize s_.q6 = q6 at HLA HLB HAF ⊢
  go_wp2
  go_loopg [5] (l1.length + 1) (fun kq v5 wr => ∃ x : Int, v5 = .int .i64 x ∧ Aside0 (0 ≤ x ∧ x + kq = l1.length + 1) ∧ Aside0 (writF w #[.int .u32 pa, .int .i64 pl, .int .i64 pe, .int .i64 o, .slice A1 l1.length c1, .int .u32 nx, .int .i64 md, .int .i64 pr, .slice A5 l5.length c5, .slice A6 l6.length c6, .int .i64 st] #[.int .u32 pa, .int .i64 pl, .int .i64 pe, .int .i64 o, .slice B1 l1.length d1, .int .u32 nx, .int .i64 md, .int .i64 pr, .slice B5 l5.length l5.length, .slice B6 l6.length l6.length, .int .i64 st] #[.int .u32 pa, .int .i64 pl, .int .i64 pe, .int .i64 o, .slice E1 l1.length e1, .int .u32 nx, .int .i64 md, .int .i64 pr, .slice E5 l5.length l5.length, .slice E6 l6.length l6.length, .int .i64 st] gr g3 g4 s1 B1 r1 (segSh l1) B5 l5.length B6 r6 (rawSh l6) E1 q1 l1 E5 q5 l5 E6 q6 l6 wr))
  case atStart => exact ⟨0, rfl, ⟨by simp⟩, HAF⟩
  case round =>
    clear HAF
    obtain ⟨x, rfl, HF, HA⟩ := hrel
    have hz4 : wr.cell? ⟨g3, 4, none⟩ = some (.slice B1 l1.length d1) := (blk_cell HA.out.2.2.1 4).trans rfl
    by_cases hlt : x < (l1.length : Int)
    · have HL := Aside0.mk hlt
      obtain ⟨k1, rfl⟩ : ∃ k1, gk = k1 + 1 := ⟨gk - 1, by have := HF.out.2; omega⟩
      have c0b0 : decide (x < (l1.length : Int)) = true := decide_eq_true hlt
      obtain ⟨m, hm⟩ : ∃ m, ((segSh l1).getD x.toNat (false, 0)).2 = m := ⟨_, rfl⟩
      have HM := Aside0.mk hm
      clear hlt hm
      go_wp2
      clear hz4
      go_loopg [6] (m + 1) (fun kq v6 wr => ∃ y : Int, v6 = .int .i64 y ∧ Aside0 (0 ≤ y ∧ y + kq = m + 1) ∧ Aside0 (writF w #[.int .u32 pa, .int .i64 pl, .int .i64 pe, .int .i64 o, .slice A1 l1.length c1, .int .u32 nx, .int .i64 md, .int .i64 pr, .slice A5 l5.length c5, .slice A6 l6.length c6, .int .i64 st] #[.int .u32 pa, .int .i64 pl, .int .i64 pe, .int .i64 o, .slice B1 l1.length d1, .int .u32 nx, .int .i64 md, .int .i64 pr, .slice B5 l5.length l5.length, .slice B6 l6.length l6.length, .int .i64 st] #[.int .u32 pa, .int .i64 pl, .int .i64 pe, .int .i64 o, .slice E1 l1.length e1, .int .u32 nx, .int .i64 md, .int .i64 pr, .slice E5 l5.length l5.length, .slice E6 l6.length l6.length, .int .i64 st] gr g3 g4 s1 B1 r1 (segSh l1) B5 l5.length B6 r6 (rawSh l6) E1 q1 l1 E5 q5 l5 E6 q6 l6 wr))
      case atStart => exact ⟨0, rfl, ⟨by simp⟩, HA⟩
      case round =>
        clear HA
        obtain ⟨y, rfl, HG, HA⟩ := hrel
        have hz4 : wr.cell? ⟨g3, 4, none⟩ = some (.slice B1 l1.length d1) := (blk_cell HA.out.2.2.1 4).trans rfl
        obtain ⟨ad, A, c, hB, hx1, hmx, hI, hok⟩ := at_seg HA.out.2.2.2.2.1.1 x HF.out.1 (by rw [segSh_len]; exact HL.out) m HM.out
        subst hB
        have HMX := Aside0.mk hmx
        have HOK := Aside0.mk hok
        have HI := Aside0.mk hI
        have p0 := eq_true HF.out.1
        have p1 := eq_true HL.out
        clear hmx hok hI
        by_cases hlt : y < (m : Int)
        · have HLY := Aside0.mk hlt
          obtain ⟨k2, rfl⟩ : ∃ k2, gk = k2 + 1 := ⟨gk - 1, by have := HG.out.2; omega⟩
          have c1b0 : decide (y < (m : Int)) = true := decide_eq_true hlt
          obtain ⟨g, cells, hA, hge, hg, ⟨v, hv⟩, hfz⟩ := Ints.at_ HI.out (k := y.toNat) (by have := HG.out.1; omega)
          have HGL := Aside0.mk (HOK.out (by have := HG.out.1; omega) g hA)
          subst hA
          have HGE := Aside0.mk hge
          have HGB := Aside0.mk hg
          have p2 := eq_true HG.out.1
          have p3 := eq_true hlt
          clear hlt hge hg
          go_wp2
          go_roundg k2
          case measure => omega
          case rel => exact ⟨y + 1, (by have hw : wrap64 (y + 1) = y + 1 := (by have := HLY.out; have := HG.out.1; have := HMX.out; unfold wrap64; omega); first | rfl | (simp [hw]; done)), ⟨by have := HG.out.1; omega, by have := HG.out.2; omega⟩, ⟨HA.out.put HGB.out HGE.out HGL.out (fun _ => rfl) (fun h => absurd h (by decide)) (fun h => absurd h (by decide)) (by decide) (by decide) (by decide)⟩⟩
        · have c1b0 : decide (y < (m : Int)) = false := decide_eq_false hlt
          clear hlt
          go_wp2
          go_roundg k1
          case measure => omega
          case rel => exact ⟨x + 1, (by have hw : wrap64 (x + 1) = x + 1 := (by have := HL.out; have := HF.out.1; have := H4.out; unfold wrap64; omega); first | rfl | (simp [hw]; done)), ⟨by have := HF.out.1; omega, by have := HF.out.2; omega⟩, HA⟩
    · have c0b0 : decide (x < (l1.length : Int)) = false := decide_eq_false hlt
      clear hlt HF
      have HAF := HA
      clear HA
      go_wp2
      clear hz4 c0b0
      have HN5 := Aside0.mk (at_comms HAF.out.2.2.2.2.1.2.1).1
      go_loopg [7] (l5.length + 1) (fun kq v5 wr => ∃ x : Int, v5 = .int .i64 x ∧ Aside0 (0 ≤ x ∧ x + kq = l5.length + 1) ∧ Aside0 (writF w #[.int .u32 pa, .int .i64 pl, .int .i64 pe, .int .i64 o, .slice A1 l1.length c1, .int .u32 nx, .int .i64 md, .int .i64 pr, .slice A5 l5.length c5, .slice A6 l6.length c6, .int .i64 st] #[.int .u32 pa, .int .i64 pl, .int .i64 pe, .int .i64 o, .slice B1 l1.length d1, .int .u32 nx, .int .i64 md, .int .i64 pr, .slice B5 l5.length l5.length, .slice B6 l6.length l6.length, .int .i64 st] #[.int .u32 pa, .int .i64 pl, .int .i64 pe, .int .i64 o, .slice E1 l1.length e1, .int .u32 nx, .int .i64 md, .int .i64 pr, .slice E5 l5.length l5.length, .slice E6 l6.length l6.length, .int .i64 st] gr g3 g4 s1 B1 r1 (segSh l1) B5 l5.length B6 r6 (rawSh l6) E1 q1 l1 E5 q5 l5 E6 q6 l6 wr))
      case atStart => exact ⟨0, rfl, ⟨by simp⟩, HAF⟩
      case round =>
        clear HAF
        obtain ⟨x, rfl, HF, HA⟩ := hrel
        have hz4 : wr.cell? ⟨g3, 8, none⟩ = some (.slice B5 l5.length l5.length) := (blk_cell HA.out.2.2.1 8).trans rfl
        by_cases hlt : x < (l5.length : Int)
        · have HL := Aside0.mk hlt
          obtain ⟨k1, rfl⟩ : ∃ k1, gk = k1 + 1 := ⟨gk - 1, by have := HF.out.2; omega⟩
          have c0b0 : decide (x < (l5.length : Int)) = true := decide_eq_true hlt
          obtain ⟨_, hI, hok⟩ := at_comms HA.out.2.2.2.2.1.2.1
          obtain ⟨g, cells, hA, hge, hg, ⟨v, hv⟩, hfz⟩ := Ints.at_ hI (k := x.toNat) (by have := HF.out.1; omega)
          have HGL := Aside0.mk (hok (by have := HF.out.1; omega) g hA)
          subst hA
          have HGE := Aside0.mk hge
          have HGB := Aside0.mk hg
          have p2 := eq_true HF.out.1
          have p3 := eq_true hlt
          clear hlt hge hg hI hok
          go_wp2
          go_roundg k1
          case measure => omega
          case rel => exact ⟨x + 1, (by have hw : wrap64 (x + 1) = x + 1 := (by have := HL.out; have := HF.out.1; have := HN5.out; unfold wrap64; omega); first | rfl | (simp [hw]; done)), ⟨by have := HF.out.1; omega, by have := HF.out.2; omega⟩, ⟨HA.out.put HGB.out HGE.out HGL.out (fun h => absurd h (by decide)) (fun _ => rfl) (fun h => absurd h (by decide)) (by decide) (by decide) (by decide)⟩⟩
        · have c0b0 : decide (x < (l5.length : Int)) = false := decide_eq_false hlt
          clear hlt HF
          have HAF := HA
          clear HA
          go_wp2
          clear hz4 c0b0
          go_loopg [8] (l6.length + 1) (fun kq v5 wr => ∃ x : Int, v5 = .int .i64 x ∧ Aside0 (0 ≤ x ∧ x + kq = l6.length + 1) ∧ Aside0 (writF w #[.int .u32 pa, .int .i64 pl, .int .i64 pe, .int .i64 o, .slice A1 l1.length c1, .int .u32 nx, .int .i64 md, .int .i64 pr, .slice A5 l5.length c5, .slice A6 l6.length c6, .int .i64 st] #[.int .u32 pa, .int .i64 pl, .int .i64 pe, .int .i64 o, .slice B1 l1.length d1, .int .u32 nx, .int .i64 md, .int .i64 pr, .slice B5 l5.length l5.length, .slice B6 l6.length l6.length, .int .i64 st] #[.int .u32 pa, .int .i64 pl, .int .i64 pe, .int .i64 o, .slice E1 l1.length e1, .int .u32 nx, .int .i64 md, .int .i64 pr, .slice E5 l5.length l5.length, .slice E6 l6.length l6.length, .int .i64 st] gr g3 g4 s1 B1 r1 (segSh l1) B5 l5.length B6 r6 (rawSh l6) E1 q1 l1 E5 q5 l5 E6 q6 l6 wr))
          case atStart => exact ⟨0, rfl, ⟨by simp⟩, HAF⟩
          case round =>
            clear HAF
            obtain ⟨x, rfl, HF, HA⟩ := hrel
            have hz4 : wr.cell? ⟨g3, 9, none⟩ = some (.slice B6 l6.length l6.length) := (blk_cell HA.out.2.2.1 9).trans rfl
            by_cases hlt : x < (l6.length : Int)
            · have HL := Aside0.mk hlt
              obtain ⟨k1, rfl⟩ : ∃ k1, gk = k1 + 1 := ⟨gk - 1, by have := HF.out.2; omega⟩
              have c0b0 : decide (x < (l6.length : Int)) = true := decide_eq_true hlt
              obtain ⟨m, hm⟩ : ∃ m, ((rawSh l6).getD x.toNat (0, 0, 0)).2.2 = m := ⟨_, rfl⟩
              have HM := Aside0.mk hm
              clear hlt hm
              go_wp2
              clear hz4
              go_loopg [9] (m + 1) (fun kq v6 wr => ∃ y : Int, v6 = .int .i64 y ∧ Aside0 (0 ≤ y ∧ y + kq = m + 1) ∧ Aside0 (writF w #[.int .u32 pa, .int .i64 pl, .int .i64 pe, .int .i64 o, .slice A1 l1.length c1, .int .u32 nx, .int .i64 md, .int .i64 pr, .slice A5 l5.length c5, .slice A6 l6.length c6, .int .i64 st] #[.int .u32 pa, .int .i64 pl, .int .i64 pe, .int .i64 o, .slice B1 l1.length d1, .int .u32 nx, .int .i64 md, .int .i64 pr, .slice B5 l5.length l5.length, .slice B6 l6.length l6.length, .int .i64 st] #[.int .u32 pa, .int .i64 pl, .int .i64 pe, .int .i64 o, .slice E1 l1.length e1, .int .u32 nx, .int .i64 md, .int .i64 pr, .slice E5 l5.length l5.length, .slice E6 l6.length l6.length, .int .i64 st] gr g3 g4 s1 B1 r1 (segSh l1) B5 l5.length B6 r6 (rawSh l6) E1 q1 l1 E5 q5 l5 E6 q6 l6 wr))
              case atStart => exact ⟨0, rfl, ⟨by simp⟩, HA⟩
              case round =>
                clear HA
                obtain ⟨y, rfl, HG, HA⟩ := hrel
                have hz4 : wr.cell? ⟨g3, 9, none⟩ = some (.slice B6 l6.length l6.length) := (blk_cell HA.out.2.2.1 9).trans rfl
                obtain ⟨ad, A, c, hB, hx1, hmx, hI, hok⟩ := at_raw HA.out.2.2.2.2.1.2.2 x HF.out.1 (by rw [rawSh_len]; exact HL.out) m HM.out
                subst hB
                have HMX := Aside0.mk hmx
                have HOK := Aside0.mk hok
                have HI := Aside0.mk hI
                have p0 := eq_true HF.out.1
                have p1 := eq_true HL.out
                clear hmx hok hI
                by_cases hlt : y < (m : Int)
                · have HLY := Aside0.mk hlt
                  obtain ⟨k2, rfl⟩ : ∃ k2, gk = k2 + 1 := ⟨gk - 1, by have := HG.out.2; omega⟩
                  have c1b0 : decide (y < (m : Int)) = true := decide_eq_true hlt
                  obtain ⟨g, cells, hA, hge, hg, ⟨v, hv⟩, hfz⟩ := Ints.at_ HI.out (k := y.toNat) (by have := HG.out.1; omega)
                  have HGL := Aside0.mk (HOK.out (by have := HG.out.1; omega) g hA)
                  subst hA
                  have HGE := Aside0.mk hge
                  have HGB := Aside0.mk hg
                  have p2 := eq_true HG.out.1
                  have p3 := eq_true hlt
                  clear hlt hge hg
                  go_wp2
                  go_roundg k2
                  case measure => omega
                  case rel => exact ⟨y + 1, (by have hw : wrap64 (y + 1) = y + 1 := (by have := HLY.out; have := HG.out.1; have := HMX.out; unfold wrap64; omega); first | rfl | (simp [hw]; done)), ⟨by have := HG.out.1; omega, by have := HG.out.2; omega⟩, ⟨HA.out.put HGB.out HGE.out HGL.out (fun h => absurd h (by decide)) (fun h => absurd h (by decide)) (fun _ => rfl) (by decide) (by decide) (by decide)⟩⟩
                · have c1b0 : decide (y < (m : Int)) = false := decide_eq_false hlt
                  clear hlt
                  go_wp2
                  go_roundg k1
                  case measure => omega
                  case rel => exact ⟨x + 1, (by have hw : wrap64 (x + 1) = x + 1 := (by have := HL.out; have := HF.out.1; have := H6.out; unfold wrap64; omega); first | rfl | (simp [hw]; done)), ⟨by have := HF.out.1; omega, by have := HF.out.2; omega⟩, HA⟩
            · have c0b0 : decide (x < (l6.length : Int)) = false := decide_eq_false hlt
              clear hlt HF
              have HAF := HA
              clear HA
              have HZB := Aside0.mk HAF.out.1
              have HZR := Aside0.mk HAF.out.2.1
              have HZ4 := Aside0.mk HAF.out.2.2.2.1
              have HZ1 := Aside0.mk (kc_C (Kd.R_reads' HAF.out.2.2.2.2.2.1).2.2)
              have HZ5 := Aside0.mk (Kd.R_reads' HAF.out.2.2.2.2.2.2.1).2.2
              have HZ6 := Aside0.mk (Kd.R_reads' HAF.out.2.2.2.2.2.2.2).2.2
              clear HAF
              go_wp2_with (first | (go_at_call 29; with_reducible refine (interregnumlaw13_answers.calls true _ rfl).mono ?_; rintro e w20 ⟨rfl, hb⟩; have BK4Y := Aside0.mk ((hb.block _ (blk_lt HZ4.out)).trans HZ4.out); have BKRY := Aside0.mk ((hb.block _ (blk_lt HZR.out)).trans HZR.out); have HBY := Aside0.mk (below_step HZB.out hb); have HY1 := Aside0.mk (Kd.C_below HZ1.out hb); have HY5 := Aside0.mk (Kd.C_below HZ5.out hb); have HY6 := Aside0.mk (Kd.C_below HZ6.out hb); clear hb) | ((with_reducible refine gate_dst (N := 100) rfl ?_); (try (refine gate_guard (by rfl) ?_; dsimp only)); refine load_blk rfl 48 (.tmp 4) rfl (g := g4) (off := 0) [.int .u32 pa, .int .i64 pl, .int .i64 pe, .int .i64 o, .slice E1 l1.length e1, .int .u32 nx, .int .i64 md, .int .i64 pr, .slice E5 l5.length l5.length, .slice E6 l6.length l6.length, .int .i64 st] _ rfl BK4Y.out (self_r _) Try.underlying48 rfl (by kernel_rfl) ?_) | ((with_reducible refine gate_dst (N := 101) rfl ?_); (try (refine gate_guard (by rfl) ?_; dsimp only)); refine load_blk rfl 48 (.tmp 1) rfl (g := gr) (off := 0) [.int .u32 pa, .int .i64 pl, .int .i64 pe, .int .i64 o, .slice A1 l1.length c1, .int .u32 nx, .int .i64 md, .int .i64 pr, .slice A5 l5.length c5, .slice A6 l6.length c6, .int .i64 st] _ rfl BKRY.out (self_r _) Try.underlying48 rfl (by kernel_rfl) ?_) | (go_at_call 32; with_reducible refine (interregnumref11_SameRoute.calls k pa pl pe o E1 e1 l1 nx md pr E5 l5.length l5 E6 l6.length l6 st pa pl pe o A1 c1 l1 nx md pr A5 c5 l5 A6 c6 l6 st true _ HY1.out HLB.out HY5.out (Nat.le_refl _) HY6.out (Nat.le_refl _) (Kd.C_below HR1.out HBY.out) HC.out.1 (Kd.C_below HR5.out HBY.out) HC.out.2.1 (Kd.C_below HR6.out HBY.out) HC.out.2.2 HSM.out).mono ?_; rintro e w21 ⟨rfl, hb⟩; have HBX := Aside0.mk (below_step HBY.out hb); clear hb))
              go_ret
              exact ⟨rfl, by first | exact HBX.out | exact pw_below_drewN HBX.out _⟩
def ownOk (k : Nat) (pa pl pe o : Int) (l1 : List S38) (nx md pr : Int) (l5 : List Int) (l6 : List S58) (st : Int) : Prop :=
  l1.length < 4000 ∧ (∀ y ∈ l1, slices_Clone_int_int.f y.f1 = some y.f1) ∧ slices_Clone_uint32_uint32.f l5 = some l5 ∧ l6.length < 4000 ∧ (∀ r ∈ l6, bytes_Clone.f r.f2 = some r.f2) ∧ interregnumref11_SameRoute.f k pa pl pe o l1 nx md pr l5 l6 st pa pl pe o l1 nx md pr l5 l6 st = some true
instance ownOk_dec (k : Nat) (pa pl pe o : Int) (l1 : List S38) (nx md pr : Int) (l5 : List Int) (l6 : List S58) (st : Int) : Decidable (ownOk k pa pl pe o l1 nx md pr l5 l6 st) := by unfold ownOk; infer_instance
def interregnumlaw13_RouteOwn.f (k : Nat) (pa pl pe o : Int) (l1 : List S38) (nx md pr : Int) (l5 : List Int) (l6 : List S58) (st : Int) : Option Bool :=
  (interregnumlaw13_small.f k pa pl pe o l1 nx md pr l5 l6 st).bind fun s => if s = true then (if ownOk k pa pl pe o l1 nx md pr l5 l6 st then some true else none) else if interregnumlaw13_answers.f = some true then some true else none
theorem interregnumlaw13_RouteOwn.calls (k : Nat) (pa pl pe o : Int) (A1 : Option Addr) (c1 : Nat) (l1 : List S38) (nx md pr : Int) (A5 : Option Addr) (c5 : Nat) (l5 : List Int) (A6 : Option Addr) (c6 : Nat) (l6 : List S58) (st : Int) (r : Bool) (w : World)
    (hr0_4 : Kd.C k38 w A1 l1.length l1) (hc0_4 : l1.length ≤ c1) (hr0_8 : Kd.C (Kd.int .u32) w A5 l5.length l5) (hc0_8 : l5.length ≤ c5) (hr0_9 : Kd.C k58 w A6 l6.length l6) (hc0_9 : l6.length ≤ c6) (h : interregnumlaw13_RouteOwn.f k pa pl pe o l1 nx md pr l5 l6 st = some r) :
    Calls Try.prog 9 #[.agg #[.int .u32 pa, .int .i64 pl, .int .i64 pe, .int .i64 o, .slice A1 l1.length c1, .int .u32 nx, .int .i64 md, .int .i64 pr, .slice A5 l5.length c5, .slice A6 l6.length c6, .int .i64 st]] w fun e w' => e = .returned (.bool r) ∧ Below w.heap.size w w' := by
  unfold interregnumlaw13_RouteOwn.f at h
  obtain ⟨s, hs, h⟩ := Option.bind_eq_some_iff.mp h
  by_cases hst : s = true
  · rw [if_pos hst] at h
    subst hst
    by_cases hok : ownOk k pa pl pe o l1 nx md pr l5 l6 st
    · rw [if_pos hok] at h
      obtain rfl := Option.some.inj h
      obtain ⟨p1, p2, p3, p4, p5, p6⟩ := hok
      exact law_small k pa pl pe o A1 c1 l1 nx md pr A5 c5 l5 A6 c6 l6 st w hr0_4 hc0_4 hr0_8 hc0_8 hr0_9 hc0_9 hs p1 p2 p3 p4 p5 p6
    · rw [if_neg hok] at h
      cases h
  · rw [if_neg hst] at h
    by_cases ha : interregnumlaw13_answers.f = some true
    · rw [if_pos ha] at h
      obtain rfl := Option.some.inj h
      have hsf : s = false := by cases s with | true => exact absurd rfl hst | false => rfl
      subst hsf
      exact law_not_small k pa pl pe o A1 c1 l1 nx md pr A5 c5 l5 A6 c6 l6 st w hr0_4 hc0_4 hr0_8 hc0_8 hr0_9 hc0_9 hs
    · rw [if_neg ha] at h
      cases h


end Go.Proofs.Ytpkckkmgnlhhcaa.PRouteOwn
