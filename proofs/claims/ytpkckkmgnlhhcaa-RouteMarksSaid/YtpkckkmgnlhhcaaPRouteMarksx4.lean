-- Lean text by a program of this repo (wip/tools/printx.py), out of Lean's own print of the translation
import Derived.Test.YtpkckkmgnlhhcaaInts
import Derived.Test.YtpkckkmgnlhhcaaMid
import Derived.Test.YtpkckkmgnlhhcaaHelp
import Derived.ArgAppend
import Derived.Test.YtpkckkmgnlhhcaaPRouteMarksx0
import Derived.Test.YtpkckkmgnlhhcaaPRouteMarksx2
import Derived.Test.YtpkckkmgnlhhcaaPRouteMarksx3
namespace Go.Proofs.Ytpkckkmgnlhhcaa.PRouteMarks
open Go.RowKit Go.Proofs.YtpkckkmgnlhhcaaW.PrintWords Go.Proofs.YtpkckkmgnlhhcaaW.PrintLast Go.Proofs.YtpkckkmgnlhhcaaW.PrintMore
attribute [local go_sem] max2_int min2_int max_two min_two max_three min_three max_four min_four   -- for this text's walks alone
set_option linter.unusedVariables false
set_option linter.unusedSimpArgs false

/-! ### route_Mark: function 30 -/
-- FN rounds=0 making=1
-- IMPORT Derived.ArgAppend
-- IMPORT Derived.Test.YtpkckkmgnlhhcaaHelp
-- IMPORT Derived.Test.YtpkckkmgnlhhcaaMid
-- IMPORT Derived.Test.YtpkckkmgnlhhcaaInts
open Go.Proofs.Ytpkckkmgnlhhcaa.Ints
set_option maxHeartbeats 4000000 in
set_option maxRecDepth 100000 in
theorem clip_u32 (A : Option Addr) (n c : Nat) (w : World) (hn : n ≤ c) :
    Calls Try.prog 65 #[.slice A n c] w fun e w' => e = .returned (.slice A n n) ∧ Below w.heap.size w w' := by
  have HB := Aside0.mk (Below.refl w.heap.size w)
  go_enter Try.func65, Try.ntmps65
  go_wp2
  go_ret
  exact ⟨rfl, by first | exact HB.out | exact pw_below_drewN HB.out _⟩
set_option maxHeartbeats 4000000 in
set_option maxRecDepth 100000 in
theorem clip_raw (A : Option Addr) (n c : Nat) (w : World) (hn : n ≤ c) :
    Calls Try.prog 68 #[.slice A n c] w fun e w' => e = .returned (.slice A n n) ∧ Below w.heap.size w w' := by
  have HB := Aside0.mk (Below.refl w.heap.size w)
  go_enter Try.func68, Try.ntmps68
  go_wp2
  go_ret
  exact ⟨rfl, by first | exact HB.out | exact pw_below_drewN HB.out _⟩
set_option maxHeartbeats 4000000 in
set_option maxRecDepth 100000 in
theorem clip_int (A : Option Addr) (n c : Nat) (w : World) (hn : n ≤ c) :
    Calls Try.prog 69 #[.slice A n c] w fun e w' => e = .returned (.slice A n n) ∧ Below w.heap.size w w' := by
  have HB := Aside0.mk (Below.refl w.heap.size w)
  go_enter Try.func69, Try.ntmps69
  go_wp2
  go_ret
  exact ⟨rfl, by first | exact HB.out | exact pw_below_drewN HB.out _⟩
set_option maxHeartbeats 4000000 in
set_option maxRecDepth 100000 in
theorem clip_seg (A : Option Addr) (n c : Nat) (w : World) (hn : n ≤ c) :
    Calls Try.prog 71 #[.slice A n c] w fun e w' => e = .returned (.slice A n n) ∧ Below w.heap.size w w' := by
  have HB := Aside0.mk (Below.refl w.heap.size w)
  go_enter Try.func71, Try.ntmps71
  go_wp2
  go_ret
  exact ⟨rfl, by first | exact HB.out | exact pw_below_drewN HB.out _⟩
set_option maxHeartbeats 4000000 in
set_option maxRecDepth 100000 in
theorem infoRaw : (Try.prog.info? 58).map (fun i => (i.zero, i.size, i.bytes)) = some (some (.agg #[.int .i64 0, .int .i64 0, .slice none 0 0]), 3, 40) := by kernel_rfl
set_option maxHeartbeats 4000000 in
set_option maxRecDepth 100000 in
theorem attr_own (k : Nat) (o : Int) (A1 : Option Addr) (c1 : Nat) (l1 : List S38) (nx md pr : Int) (A5 : Option Addr) (c5 : Nat) (l5 : List Int) (A6 : Option Addr) (c6 : Nat) (l6 : List S58) (r2 : List S38) (w : World)
    (hr1 : Kd.C k38 w A1 l1.length l1) (hc1 : l1.length ≤ c1) (hr5 : Kd.C (Kd.int .u32) w A5 l5.length l5) (hc5 : l5.length ≤ c5) (hr6 : Kd.C k58 w A6 l6.length l6) (hc6 : l6.length ≤ c6) (hp : path_Own.f k l1 = some r2) (h5 : slices_Clone_uint32_uint32.f l5 = some l5) (h6 : l6.length < 4000) (hd : ∀ r ∈ l6, bytes_Clone.f r.f2 = some r.f2) :
    Calls Try.prog 54 #[.agg #[.int .i64 o, .slice A1 l1.length c1, .int .u32 nx, .int .i64 md, .int .i64 pr, .slice A5 l5.length c5, .slice A6 l6.length c6]] w fun e w' => ∃ B1 d1 B5 B6, e = .returned (.agg #[.int .i64 o, .slice B1 r2.length d1, .int .u32 nx, .int .i64 md, .int .i64 pr, .slice B5 l5.length l5.length, .slice B6 l6.length l6.length]) ∧ r2.length ≤ d1 ∧ Kd.F k38 w' (fun k => w.heap.size ≤ k) B1 r2.length r2 ∧ Kd.F (Kd.int .u32) w' (fun k => w.heap.size ≤ k) B5 l5.length l5 ∧ Ints w.heap.size w' .u32 40 B5 l5.length ∧ Kd.F k58 w' (fun k => w.heap.size ≤ k) B6 l6.length l6 ∧ Below w.heap.size w w' := by
  have HR1 := Aside0.mk hr1
  have HR5 := Aside0.mk hr5
  have HR6 := Aside0.mk hr6
  have HC := Aside0.mk (And.intro hc1 (And.intro hc5 hc6))
  have HP := Aside0.mk hp
  have H5 := Aside0.mk h5
  have H6 := Aside0.mk h6
  have HD := Aside0.mk hd
  have hu46 := Try.underlying46
  have hu58 := Try.underlying58
  have HB := Aside0.mk (Below.refl w.heap.size w)
  clear hr1 hc1 hr5 hc5 hr6 hc6 hp h5 h6 hd
  go_enter Try.func54, Try.ntmps54
  go_upto_region 1 with (first | ((with_reducible refine gate_dst (N := 1) rfl ?_); refine box_event ?hg (N := 1) ?hd (cs := #[.int .i64 o, .slice A1 l1.length c1, .int .u32 nx, .int .i64 md, .int .i64 pr, .slice A5 l5.length c5, .slice A6 l6.length c6]) (t := 46) ?hr ?_; (case hd => rfl); (case hg => rfl); (case hr => first | (go_simp; done) | (go_simp; rfl)); intro g1 hg w1 hbox hb; have HB1 := Aside0.mk (below_step HB.out hb); have BK11 := Aside0.mk hbox; have GE1 := Aside0.mk (show w.heap.size ≤ g1 from by rw [hg]; exact Nat.le_refl _); clear hbox hb hg) | ((with_reducible refine gate_dst (N := 2) rfl ?_); refine box_event ?hg (N := 2) ?hd (cs := #[.int .i64 0, .slice none 0 0, .int .u32 0, .int .i64 0, .int .i64 0, .slice none 0 0, .slice none 0 0]) (t := 46) ?hr ?_; (case hd => rfl); (case hg => rfl); (case hr => first | (go_simp; done) | (go_simp; rfl)); intro g2 hg w2 hbox hb; have HB2 := Aside0.mk (below_step HB1.out hb); have BK1 := Aside0.mk (show w2.heap[g1]? = _ from (hb.block _ (blk_lt BK11.out)).trans BK11.out); have BK2 := Aside0.mk hbox; have GE2 := Aside0.mk (show g1 < g2 from by rw [hg]; exact blk_lt BK11.out); clear BK11; clear hbox hb hg))
  refine start_ (n := 11) (S := fun w' => w'.cell? ⟨g1, 1, none⟩ = some (.slice A1 l1.length c1) ∧ w'.cell? ⟨g1, 5, none⟩ = some (.slice A5 l5.length c5)) (ds := [8, 10]) #[false, false, false, false, false, false, false, false, false, false, false] (by kernel_rfl) rfl rfl ⟨((blk_cell BK1.out 1).trans rfl), ((blk_cell BK1.out 5).trans rfl)⟩ (fun hHeld => ?_)
  have HBD := Aside0.mk (below_drew1 HB2.out)
  have BK1D := Aside0.mk (blk_drew BK1.out)
  have BK2D := Aside0.mk (blk_drew BK2.out)
  generalize w2.drew = wD at HBD BK1D BK2D hHeld ⊢
  refine pure_ (i := 0) (N := some 6) (v := ?_) (a' := ?_) #[true, false, false, false, false, false, false, false, false, false, false] rfl rfl (by kernel_rfl) (fun _ _ _ h => h) (Or.inl ⟨by rfl, ?_⟩) ?_ ?_
  rotate_left
  · intro w'
    go_simp
    with_reducible rfl
  rotate_left
  · simp only [Act.put, List.setIfInBounds_toArray, List.set_cons_zero, List.set_cons_succ, i64_w, i32_w]
    rfl
  refine pure_ (i := 3) (N := some 9) (v := ?_) (a' := ?_) #[true, false, false, true, false, false, false, false, false, false, false] rfl rfl (by kernel_rfl) (fun _ _ _ h => h) (Or.inl ⟨by rfl, ?_⟩) ?_ ?_
  rotate_left
  · intro w'
    go_simp
    with_reducible rfl
  rotate_left
  · simp only [Act.put, List.setIfInBounds_toArray, List.set_cons_zero, List.set_cons_succ, i64_w, i32_w]
    rfl
  refine take_ (i := 1) (N := some 7) (v := ?_) (a' := ?_) #[true, true, false, true, false, false, false, false, false, false, false] rfl rfl (by kernel_rfl) (fun _ _ _ h => h) (Or.inl ⟨by rfl, ?_⟩) hHeld ?_ ?_
  rotate_left
  · rintro w' ⟨s0, s1⟩
    go_simp
    with_reducible rfl
  rotate_left
  · simp only [Act.put, List.setIfInBounds_toArray, List.set_cons_zero, List.set_cons_succ, i64_w, i32_w]
    rfl
  refine take_ (i := 4) (N := some 10) (v := ?_) (a' := ?_) #[true, true, false, true, true, false, false, false, false, false, false] rfl rfl (by kernel_rfl) (fun _ _ _ h => h) (Or.inl ⟨by rfl, ?_⟩) hHeld ?_ ?_
  rotate_left
  · rintro w' ⟨s0, s1⟩
    go_simp
    with_reducible rfl
  rotate_left
  · simp only [Act.put, List.setIfInBounds_toArray, List.set_cons_zero, List.set_cons_succ, i64_w, i32_w]
    rfl
  refine one_ (i := 2) (N := some 8) #[true, true, true, true, true, false, false, false, false, false, false] rfl rfl (by kernel_rfl) (by decide) (fun K hK => ?_)
  refine goes_ Try.func55 (by kernel_rfl) rfl #[.slice A1 l1.length c1] (by rfl) rfl rfl (by (try simp only [List.map_toArray, List.map_cons, List.map_nil]); first | done | rfl) ?_
  refine (path_Own.calls k A1 c1 l1 r2 _ (Kd.C_below HR1.out HBD.out) HC.out.1 HP.out).mono ?_
  rintro e w3 ⟨v1, rfl, hv1, hb⟩
  obtain ⟨B1, d1, ev1⟩ := Kd.V_slice hv1
  subst ev1
  have HL1 := Aside0.mk (Kd.V_reads' hv1).2.1
  have HF1 := Aside0.mk (Kd.F_mono (ok' := fun k => g2 < k) (Kd.V_at hv1).2.2 (fun k hk => Nat.lt_of_lt_of_le (blk_lt BK2D.out) hk))
  have HBE := Aside0.mk (below_step HBD.out hb)
  have BK1E := Aside0.mk ((hb.block g1 (blk_lt BK1D.out)).trans BK1D.out)
  have BK2E := Aside0.mk ((hb.block g2 (blk_lt BK2D.out)).trans BK2D.out)
  clear HBD BK1D BK2D
  have HBD := HBE
  have BK1D := BK1E
  have BK2D := BK2E
  clear HBE BK1E BK2E
  clear hb hv1
  refine ⟨_, rfl, ?_⟩
  refine hK.out _ _ ⟨(blk_cell BK1D.out 1).trans rfl, (blk_cell BK1D.out 5).trans rfl⟩ (fun hHeld => ?_)
  clear hK K
  refine norm_ (a' := ?_) ?_ ?_
  rotate_left
  · show Act.put _ (some 8) _ = _
    simp only [Act.put, List.setIfInBounds_toArray, List.set_cons_zero, List.set_cons_succ, i64_w, i32_w]
    rfl
  refine pure_ (i := 7) (N := some 13) (v := ?_) (a' := ?_) #[true, true, true, true, true, false, false, true, false, false, false] rfl rfl (by kernel_rfl) (fun _ _ _ h => h) (Or.inl ⟨by rfl, ?_⟩) ?_ ?_
  rotate_left
  · intro w'
    go_simp
    with_reducible rfl
  rotate_left
  · simp only [Act.put, List.setIfInBounds_toArray, List.set_cons_zero, List.set_cons_succ, i64_w, i32_w]
    rfl
  refine one_ (i := 5) (N := some 11) #[true, true, true, true, true, true, false, true, false, false, false] rfl rfl (by kernel_rfl) (by decide) (fun K hK => ?_)
  refine goes_ Try.func66 (by kernel_rfl) rfl #[.slice A5 l5.length c5] (by rfl) rfl rfl (by (try simp only [List.map_toArray, List.map_cons, List.map_nil]); first | done | rfl) ?_
  refine (slices_Clone_uint32_uint32.calls A5 c5 l5 l5 _ (Kd.C_below HR5.out HBD.out) HC.out.2.1 H5.out).mono ?_
  rintro e w4 ⟨v5, rfl, hv5, hb⟩
  obtain ⟨B5, d5, ev5⟩ := Kd.R_slice hv5
  subst ev5
  replace HF1 := Aside0.mk (Kd.F_below HF1.out hb)
  have HI5 := Aside0.mk (Ints.lower (Ints.of_R hv5) (show g2 + 1 ≤ _ from blk_lt BK2D.out))
  have HV5 := Aside0.mk (Kd.R_reads' hv5).2.1
  have HF5 := Aside0.mk (Kd.F_mono (ok' := fun k => g2 < k) (Kd.R_F (Kd.R_tight rfl hv5)) (fun k hk => Nat.lt_of_lt_of_le (blk_lt BK2D.out) (Kd.R_base hv5 k hk.symm)))
  have HBE := Aside0.mk (below_step HBD.out hb)
  have BK1E := Aside0.mk ((hb.block g1 (blk_lt BK1D.out)).trans BK1D.out)
  have BK2E := Aside0.mk ((hb.block g2 (blk_lt BK2D.out)).trans BK2D.out)
  clear HBD BK1D BK2D
  have HBD := HBE
  have BK1D := BK1E
  have BK2D := BK2E
  clear HBE BK1E BK2E
  clear hb hv5
  refine ⟨_, rfl, ?_⟩
  refine hK.out _ _ ⟨(blk_cell BK1D.out 1).trans rfl, (blk_cell BK1D.out 5).trans rfl⟩ (fun hHeld => ?_)
  clear hK K
  refine norm_ (a' := ?_) ?_ ?_
  rotate_left
  · show Act.put _ (some 11) _ = _
    simp only [Act.put, List.setIfInBounds_toArray, List.set_cons_zero, List.set_cons_succ, i64_w, i32_w]
    rfl
  refine one_ (i := 6) (N := some 12) #[true, true, true, true, true, true, true, true, false, false, false] rfl rfl (by kernel_rfl) (by decide) (fun K hK => ?_)
  refine goes_ Try.func65 (by kernel_rfl) rfl #[.slice B5 l5.length d5] (by rfl) rfl rfl (by (try simp only [List.map_toArray, List.map_cons, List.map_nil]); first | done | rfl) ?_
  refine (clip_u32 B5 l5.length d5 _ HV5.out).mono ?_
  rintro e w5 ⟨rfl, hb⟩
  replace HF1 := Aside0.mk (Kd.F_below HF1.out hb)
  replace HF5 := Aside0.mk (Kd.F_below HF5.out hb)
  replace HI5 := Aside0.mk (HI5.out.below hb)
  have HBE := Aside0.mk (below_step HBD.out hb)
  have BK1E := Aside0.mk ((hb.block g1 (blk_lt BK1D.out)).trans BK1D.out)
  have BK2E := Aside0.mk ((hb.block g2 (blk_lt BK2D.out)).trans BK2D.out)
  clear HBD BK1D BK2D
  have HBD := HBE
  have BK1D := BK1E
  have BK2D := BK2E
  clear HBE BK1E BK2E
  clear hb
  have hs1 : w5.cell? ⟨g1, 1, none⟩ = some (.slice A1 l1.length c1) := (blk_cell BK1D.out 1).trans rfl
  have hs5 : w5.cell? ⟨g1, 5, none⟩ = some (.slice A5 l5.length c5) := (blk_cell BK1D.out 5).trans rfl
  have hsf1 := blk_frozen BK1D.out 1
  have hsf5 := blk_frozen BK1D.out 5
  refine ⟨_, rfl, ?_⟩
  refine hK.out _ _ ⟨(blk_cell BK1D.out 1).trans rfl, (blk_cell BK1D.out 5).trans rfl⟩ (fun hHeld => ?_)
  clear hK K
  refine norm_ (a' := ?_) ?_ ?_
  rotate_left
  · show Act.put _ (some 12) _ = _
    simp only [Act.put, List.setIfInBounds_toArray, List.set_cons_zero, List.set_cons_succ, i64_w, i32_w]
    rfl
  refine last_ (i := 8) (N := none) #[true, true, true, true, true, true, true, true, true, false, false] rfl rfl (by kernel_rfl) (by decide) (fun K hK => ?_)
  refine skip_ (w1 := ?_) (by rfl) rfl ?_ ?_
  rotate_left
  · go_simp
    rfl
  refine hK.out _ _ ?_
  clear hK K
  refine pure_ (i := 9) (N := some 14) (v := ?_) (a' := ?_) #[true, true, true, true, true, true, true, true, true, true, false] rfl rfl (by kernel_rfl) (fun _ _ _ h => h) (Or.inl ⟨by rfl, ?_⟩) ?_ ?_
  rotate_left
  · intro w'
    go_simp
    with_reducible rfl
  rotate_left
  · simp only [Act.put, List.setIfInBounds_toArray, List.set_cons_zero, List.set_cons_succ, i64_w, i32_w]
    rfl
  refine last_ (i := 10) (N := none) #[true, true, true, true, true, true, true, true, true, true, true] rfl rfl (by kernel_rfl) (by decide) (fun K hK => ?_)
  refine skip_ (w1 := ?_) (by rfl) rfl ?_ ?_
  rotate_left
  · go_simp
    rfl
  refine hK.out _ _ ?_
  clear hK K
  refine done_ (by kernel_rfl) ?_
  have BK16 := Aside0.mk (show ((w5.setCell ⟨g1, 1, none⟩ (.slice B1 r2.length d1)).setCell ⟨g1, 5, none⟩ (.slice B5 l5.length l5.length)).heap[g1]? = some (.cells #[.int .i64 o, .slice B1 r2.length d1, .int .u32 nx, .int .i64 md, .int .i64 pr, .slice B5 l5.length l5.length, .slice A6 l6.length c6] 46 (0, 0)) from blk_put (cs := #[.int .i64 o, .slice B1 r2.length d1, .int .u32 nx, .int .i64 md, .int .i64 pr, .slice A5 l5.length c5, .slice A6 l6.length c6]) (blk_put BK1D.out 1 _ rfl) 5 _ rfl)
  have BK26 := Aside0.mk (show ((w5.setCell ⟨g1, 1, none⟩ (.slice B1 r2.length d1)).setCell ⟨g1, 5, none⟩ (.slice B5 l5.length l5.length)).heap[g2]? = some (.cells #[.int .i64 0, .slice none 0 0, .int .u32 0, .int .i64 0, .int .i64 0, .slice none 0 0, .slice none 0 0] 46 (0, 0)) from (Below.heap_setCell _ ⟨g1, _, none⟩ _ g2 (by have := GE2.out; show g2 ≠ g1; omega)).trans ((Below.heap_setCell _ ⟨g1, _, none⟩ _ g2 (by have := GE2.out; show g2 ≠ g1; omega)).trans BK2D.out))
  have HF16 := Aside0.mk (Kd.F_far (p := ⟨g1, 5, none⟩) (Kd.F_far (p := ⟨g1, 1, none⟩) HF1.out (fun k hk => by have := GE2.out; show k ≠ g1; omega) (.slice B1 r2.length d1)) (fun k hk => by have := GE2.out; show k ≠ g1; omega) (.slice B5 l5.length l5.length))
  have HF56 := Aside0.mk (Kd.F_far (p := ⟨g1, 5, none⟩) (Kd.F_far (p := ⟨g1, 1, none⟩) HF5.out (fun k hk => by have := GE2.out; show k ≠ g1; omega) (.slice B1 r2.length d1)) (fun k hk => by have := GE2.out; show k ≠ g1; omega) (.slice B5 l5.length l5.length))
  have HI6 := Aside0.mk (Ints.far (p := ⟨g1, 5, none⟩) (Ints.far (p := ⟨g1, 1, none⟩) HI5.out (.slice B1 r2.length d1) (by have := GE2.out; show g1 < g2 + 1; omega)) (.slice B5 l5.length l5.length) (by have := GE2.out; show g1 < g2 + 1; omega))
  have HB6 := Aside0.mk (Below.setCell (p := ⟨g1, 5, none⟩) (Below.setCell (p := ⟨g1, 1, none⟩) HBD.out GE1.out (.slice B1 r2.length d1)) GE1.out (.slice B5 l5.length l5.length))
  clear HB1 HB2 BK1 BK2 HBD BK1D BK2D HF1 HF5 HI5 HV5 hs1 hs5 hsf1 hsf5
  generalize ((w5.setCell ⟨g1, 1, none⟩ (.slice B1 r2.length d1)).setCell ⟨g1, 5, none⟩ (.slice B5 l5.length l5.length)) = w6 at BK16 BK26 HF16 HF56 HI6 HB6 ⊢
  have hcr : w6.cell? ⟨g1, 6, none⟩ = some (.slice A6 l6.length c6) := (blk_cell BK16.out 6).trans rfl
  go_wp2
  clear hcr
  go_loopg [3, 18] (l6.length + 1) (fun kq v3 v18 w' => ∃ x : Nat, v18 = .int .i64 (x : Int) ∧ Aside0 (x + kq = l6.length + 1 ∧ x ≤ l6.length) ∧ Aside0 (Kd.N k58 58 w' w6.heap.size (fun k => w6.heap.size ≤ k) v3 (l6.take x)) ∧ Aside0 (Below w6.heap.size w6 w'))
  case atStart => exact ⟨0, rfl, ⟨by omega, by omega⟩, ⟨Kd.N_nil _ _ _ _ _⟩, ⟨Below.refl _ _⟩⟩
  case round =>
    obtain ⟨x, rfl, HM, HN, HBL⟩ := hrel
    obtain ⟨k1, rfl⟩ : ∃ k1, gk = k1 + 1 := ⟨gk - 1, by have := HM.out; omega⟩
    by_cases hlt : x < l6.length
    · have q0 : 0 ≤ ((x : Nat) : Int) := by omega
      have q1 : ((x : Nat) : Int) < (l6.length : Int) := by omega
      have c4b0 : decide (((x : Nat) : Int) < (l6.length : Int)) = true := decide_eq_true q1
      have c4b1 : decide (x < l6.length) = true := decide_eq_true hlt
      obtain ⟨ad, AD, cD, e, hx0, hx1, hx2, lD, gD⟩ := at_T58 (Kd.C_below HR6.out (HB6.out.trans (HBL.out.mono HB6.out.size))) ((x : Nat) : Int) q0 q1
      cases e
      simp only [Int.toNat_natCast] at hx0 hx1 hx2
      have hR : rd_T58 l6 ((x : Nat) : Int) = l6[x] := by
        unfold rd_T58
        rw [List.getD_eq_getElem?_getD, Int.toNat_natCast, List.getElem?_eq_getElem hlt]
        rfl
      have HTK := Aside0.mk (show l6.take (x + 1) = l6.take x ++ [l6[x]] from List.take_succ_eq_append_getElem hlt)
      have HDD := Aside0.mk (HD.out l6[x] (List.getElem_mem hlt))
      have HQ := Aside0.mk hlt
      rw [hR] at hx0 hx1 hx2 lD gD
      have HLD := Aside0.mk lD
      have HGD := Aside0.mk gD
      clear hR lD gD
      generalize l6[x] = R6 at hx0 hx1 hx2 HTK HDD HLD HGD
      clear hlt
      replace q0 := eq_true q0
      replace q1 := eq_true q1
      go_upto_region 6 with (first | ((with_reducible refine gate_dst (N := 5) rfl ?_); refine box_event ?hg (N := 5) ?hd (cs := #[.int .i64 0, .int .i64 0, .slice none 0 0]) (t := 58) ?hr ?_; (case hd => rfl); (case hg => rfl); (case hr => first | (go_simp; done) | (go_simp; rfl)); intro g5 hg w8 hbox hb; have HB8 := Aside0.mk hb; have BK5 := Aside0.mk hbox; have GE5 := Aside0.mk (show wr.heap.size ≤ g5 from by rw [hg]; exact Nat.le_refl _); have hz0 := (show w8.cell? ⟨g5, 0, none⟩ = some (.int .i64 0) from (blk_cell hbox 0).trans rfl); have hf0 := blk_frozen hbox 0; have hz1 := (show w8.cell? ⟨g5, 1, none⟩ = some (.int .i64 0) from (blk_cell hbox 1).trans rfl); have hf1 := blk_frozen hbox 1; have hz2 := (show w8.cell? ⟨g5, 2, none⟩ = some (.slice none 0 0) from (blk_cell hbox 2).trans rfl); have hf2 := blk_frozen hbox 2; replace hx0 := (hb.cell (World.block_lt_of_cell? _ _ hx0)).trans hx0; replace hx1 := (hb.cell (World.block_lt_of_cell? _ _ hx1)).trans hx1; replace hx2 := (hb.cell (World.block_lt_of_cell? _ _ hx2)).trans hx2; clear hbox hb hg))
      have BK5f := Aside0.mk (show (((w8.setCell ⟨g5, 0, none⟩ (.int .i64 R6.f0)).setCell ⟨g5, 1, none⟩ (.int .i64 R6.f1)).setCell ⟨g5, 2, none⟩ (.slice AD R6.f2.length cD)).heap[g5]? = some (.cells #[.int .i64 R6.f0, .int .i64 R6.f1, .slice AD R6.f2.length cD] 58 (0, 0)) from blk_put (cs := #[.int .i64 R6.f0, .int .i64 R6.f1, .slice none 0 0]) (blk_put (cs := #[.int .i64 R6.f0, .int .i64 0, .slice none 0 0]) (blk_put BK5.out 0 _ rfl) 1 _ rfl) 2 _ rfl)
      have HBX := Aside0.mk (show Below wr.heap.size wr (((w8.setCell ⟨g5, 0, none⟩ (.int .i64 R6.f0)).setCell ⟨g5, 1, none⟩ (.int .i64 R6.f1)).setCell ⟨g5, 2, none⟩ (.slice AD R6.f2.length cD)) from by
        refine Below.setCell ?_ (show wr.heap.size ≤ g5 from GE5.out) _
        refine Below.setCell ?_ (show wr.heap.size ≤ g5 from GE5.out) _
        refine Below.setCell ?_ (show wr.heap.size ≤ g5 from GE5.out) _
        exact HB8.out)
      clear HB8 BK5 hz0 hz1 hz2 hf0 hf1 hf2 hx0 hx1 hx2
      generalize (((w8.setCell ⟨g5, 0, none⟩ (.int .i64 R6.f0)).setCell ⟨g5, 1, none⟩ (.int .i64 R6.f1)).setCell ⟨g5, 2, none⟩ (.slice AD R6.f2.length cD)) = wf at BK5f HBX ⊢
      have HNf := Aside0.mk (Kd.N_below HN.out HBX.out)
      have HBf := Aside0.mk (HBL.out.trans (HBX.out.mono HBL.out.size))
      have HGf := Aside0.mk (Kd.C_below HGD.out HBX.out)
      clear HN HBL HGD HBX GE5
      refine start_ (n := 12) (S := fun w' => w'.cell? ⟨g5, 0, none⟩ = some (.int .i64 R6.f0) ∧ w'.cell? ⟨g5, 1, none⟩ = some (.int .i64 R6.f1) ∧ w'.cell? ⟨g5, 2, none⟩ = some (.slice AD R6.f2.length cD)) (ds := [10]) #[false, false, false, false, false, false, false, false, false, false, false, false] (by kernel_rfl) rfl rfl ⟨((blk_cell BK5f.out 0).trans rfl), ((blk_cell BK5f.out 1).trans rfl), ((blk_cell BK5f.out 2).trans rfl)⟩ (fun hHeld => ?_)
      have HBD := Aside0.mk (below_drew1 HBf.out)
      have BK5D := Aside0.mk (blk_drew BK5f.out)
      have HND := Aside0.mk (Kd.N_drew HNf.out)
      have HGD := Aside0.mk (Kd.C_drew HGf.out)
      generalize wf.drew = wD at HBD BK5D HND HGD hHeld ⊢
      refine pure_ (i := 0) (N := some 22) (v := ?_) (a' := ?_) #[true, false, false, false, false, false, false, false, false, false, false, false] rfl rfl (by kernel_rfl) (fun _ _ _ h => h) (Or.inl ⟨by rfl, ?_⟩) ?_ ?_
      rotate_left
      · intro w'
        go_simp
        with_reducible rfl
      rotate_left
      · simp only [Act.put, List.setIfInBounds_toArray, List.set_cons_zero, List.set_cons_succ, i64_w, i32_w]
        rfl
      refine pure_ (i := 1) (N := some 23) (v := ?_) (a' := ?_) #[true, true, false, false, false, false, false, false, false, false, false, false] rfl rfl (by kernel_rfl) (fun _ _ _ h => h) (Or.inl ⟨by rfl, ?_⟩) ?_ ?_
      rotate_left
      · intro w'
        go_simp
        with_reducible rfl
      rotate_left
      · simp only [Act.put, List.setIfInBounds_toArray, List.set_cons_zero, List.set_cons_succ, i64_w, i32_w]
        rfl
      refine pure_ (i := 3) (N := some 25) (v := ?_) (a' := ?_) #[true, true, false, true, false, false, false, false, false, false, false, false] rfl rfl (by kernel_rfl) (fun _ _ _ h => h) (Or.inl ⟨by rfl, ?_⟩) ?_ ?_
      rotate_left
      · intro w'
        go_simp
        with_reducible rfl
      rotate_left
      · simp only [Act.put, List.setIfInBounds_toArray, List.set_cons_zero, List.set_cons_succ, i64_w, i32_w]
        rfl
      refine pure_ (i := 5) (N := some 27) (v := ?_) (a' := ?_) #[true, true, false, true, false, true, false, false, false, false, false, false] rfl rfl (by kernel_rfl) (fun _ _ _ h => h) (Or.inl ⟨by rfl, ?_⟩) ?_ ?_
      rotate_left
      · intro w'
        go_simp
        with_reducible rfl
      rotate_left
      · simp only [Act.put, List.setIfInBounds_toArray, List.set_cons_zero, List.set_cons_succ, i64_w, i32_w]
        rfl
      refine take_ (i := 2) (N := some 24) (v := ?_) (a' := ?_) #[true, true, true, true, false, true, false, false, false, false, false, false] rfl rfl (by kernel_rfl) (fun _ _ _ h => h) (Or.inl ⟨by rfl, ?_⟩) hHeld ?_ ?_
      rotate_left
      · rintro w' ⟨s0, s1, s2⟩
        go_simp
        with_reducible rfl
      rotate_left
      · simp only [Act.put, List.setIfInBounds_toArray, List.set_cons_zero, List.set_cons_succ, i64_w, i32_w]
        rfl
      refine take_ (i := 4) (N := some 26) (v := ?_) (a' := ?_) #[true, true, true, true, true, true, false, false, false, false, false, false] rfl rfl (by kernel_rfl) (fun _ _ _ h => h) (Or.inl ⟨by rfl, ?_⟩) hHeld ?_ ?_
      rotate_left
      · rintro w' ⟨s0, s1, s2⟩
        go_simp
        with_reducible rfl
      rotate_left
      · simp only [Act.put, List.setIfInBounds_toArray, List.set_cons_zero, List.set_cons_succ, i64_w, i32_w]
        rfl
      refine take_ (i := 6) (N := some 28) (v := ?_) (a' := ?_) #[true, true, true, true, true, true, true, false, false, false, false, false] rfl rfl (by kernel_rfl) (fun _ _ _ h => h) (Or.inl ⟨by rfl, ?_⟩) hHeld ?_ ?_
      rotate_left
      · rintro w' ⟨s0, s1, s2⟩
        go_simp
        with_reducible rfl
      rotate_left
      · simp only [Act.put, List.setIfInBounds_toArray, List.set_cons_zero, List.set_cons_succ, i64_w, i32_w]
        rfl
      refine one_ (i := 7) (N := some 29) #[true, true, true, true, true, true, true, true, false, false, false, false] rfl rfl (by kernel_rfl) (by decide) (fun K hK => ?_)
      refine goes_ Try.func67 (by kernel_rfl) rfl #[.slice AD R6.f2.length cD] (by rfl) rfl rfl (by (try simp only [List.map_toArray, List.map_cons, List.map_nil]); first | done | rfl) ?_
      refine (bytes_Clone.calls AD cD R6.f2 R6.f2 _ HGD.out HLD.out HDD.out).mono ?_
      rintro e wa ⟨vd, rfl, hvd, hb⟩
      obtain ⟨BD, dD, evd⟩ := Kd.R_slice hvd
      subst evd
      have HLB := Aside0.mk (Kd.R_reads' hvd).2.1
      have HFD := Aside0.mk (Kd.F_mono (ok' := fun k => w6.heap.size ≤ k ∧ some k ≠ u3.ownBlock) (Kd.R_F (Kd.R_tight rfl hvd)) (fun k hk => ⟨Nat.le_trans HBD.out.size (Kd.R_base hvd k hk.symm), fun e => by have h1 := Kd.N_lt HND.out k e.symm; have h2 := Kd.R_base hvd k hk.symm; omega⟩))
      replace HND := Aside0.mk (Kd.N_below HND.out hb)
      replace BK5D := Aside0.mk ((hb.block g5 (blk_lt BK5D.out)).trans BK5D.out)
      replace HBD := Aside0.mk (below_step HBD.out hb)
      clear hb hvd HGD
      refine ⟨_, rfl, ?_⟩
      refine hK.out _ _ ⟨(blk_cell BK5D.out 0).trans rfl, (blk_cell BK5D.out 1).trans rfl, (blk_cell BK5D.out 2).trans rfl⟩ (fun hHeld => ?_)
      clear hK K
      refine norm_ (a' := ?_) ?_ ?_
      rotate_left
      · show Act.put _ (some 29) _ = _
        simp only [Act.put, List.setIfInBounds_toArray, List.set_cons_zero, List.set_cons_succ, i64_w, i32_w]
        rfl
      refine pure_ (i := 8) (N := some 30) (v := ?_) (a' := ?_) #[true, true, true, true, true, true, true, true, true, false, false, false] rfl rfl (by kernel_rfl) (fun _ _ _ h => h) (Or.inl ⟨by rfl, ?_⟩) ?_ ?_
      rotate_left
      · intro w'
        go_simp
        with_reducible rfl
      rotate_left
      · simp only [Act.put, List.setIfInBounds_toArray, List.set_cons_zero, List.set_cons_succ, i64_w, i32_w]
        rfl
      refine one_ (i := 9) (N := some 31) #[true, true, true, true, true, true, true, true, true, true, false, false] rfl rfl (by kernel_rfl) (by decide) (fun K hK => ?_)
      refine value_ (w1 := ?_) (v := ?_) (by rfl) rfl ?_ ?_
      rotate_left 2
      · go_simp
        constructor
        · rfl
        · rfl
      refine hK.out _ _ ⟨((below_alloc (Below.refl _ _) _).cell (World.block_lt_of_cell? _ _ ((blk_cell BK5D.out 0).trans rfl : _ = some (.int .i64 R6.f0)))).trans ((blk_cell BK5D.out 0).trans rfl), ((below_alloc (Below.refl _ _) _).cell (World.block_lt_of_cell? _ _ ((blk_cell BK5D.out 1).trans rfl : _ = some (.int .i64 R6.f1)))).trans ((blk_cell BK5D.out 1).trans rfl), ((below_alloc (Below.refl _ _) _).cell (World.block_lt_of_cell? _ _ ((blk_cell BK5D.out 2).trans rfl : _ = some (.slice AD R6.f2.length cD)))).trans ((blk_cell BK5D.out 2).trans rfl)⟩ (fun hHeld => ?_)
      clear hK K
      refine norm_ (a' := ?_) ?_ ?_
      rotate_left
      · show Act.put _ (some 31) _ = _
        simp only [Act.put, List.setIfInBounds_toArray, List.set_cons_zero, List.set_cons_succ, i64_w, i32_w]
        rfl
      refine last_ (i := 10) (N := some 32) #[true, true, true, true, true, true, true, true, true, true, true, false] rfl rfl (by kernel_rfl) (by decide) (fun K hK => ?_)
      refine Kd.N_append_step k58 (w0 := w6) w6.heap.size (by rfl) (.tmp 22) (.tmp 31) 44 58 (.agg #[.int .i64 0, .int .i64 0, .slice none 0 0]) 40 rfl Try.underlying44 infoRaw rfl (by decide) (by omega) u3 (l6.take x) R6 [.int .i64 R6.f0, .int .i64 R6.f1, .slice BD R6.f2.length dD] (fun k => w6.heap.size ≤ k) (fun k => w6.heap.size ≤ k ∧ some k ≠ u3.ownBlock) rfl rfl ?aP (fun _ hk => hk) (fun _ hk => Nat.le_trans HBD.out.size hk) ?aO ?aB ?aS ?aL ?_
      (case aP => exact k58_mkF _ _ R6 HLB.out HFD.out)
      (case aO => exact HND.out)
      (case aB => exact HBD.out)
      (case aS => exact HBD.out.size)
      (case aL => have := H6.out; have := List.length_take_le x l6; have := HQ.out; omega)
      intro v9 w9 ho9 hb9 hg9 hat9
      have hnx : ∀ k, some k ≠ u3.ownBlock → k < _ → w9.heap[k]? = _ := fun k h1 h2 => hg9.block k h2 h1
      have HN9 := Aside0.mk ho9
      have HB9 := Aside0.mk hb9
      clear hnx ho9 hb9 hat9
      refine hK.out _ _ ?_
      clear hK K
      refine norm_ (a' := ?_) ?_ ?_
      rotate_left
      · show Act.put _ (some 32) _ = _
        simp only [Act.put, List.setIfInBounds_toArray, List.set_cons_zero, List.set_cons_succ, i64_w, i32_w]
        rfl
      refine pure_ (i := 11) (N := some 3) (v := ?_) (a' := ?_) #[true, true, true, true, true, true, true, true, true, true, true, true] rfl rfl (by kernel_rfl) (fun _ _ _ h => h) (Or.inl ⟨by rfl, ?_⟩) ?_ ?_
      rotate_left
      · intro w'
        go_simp
        with_reducible rfl
      rotate_left
      · simp only [Act.put, List.setIfInBounds_toArray, List.set_cons_zero, List.set_cons_succ, i64_w, i32_w]
        rfl
      refine done_ (by kernel_rfl) ?_
      go_wp2
      go_roundg k1
      case measure => omega
      case rel =>
        refine ⟨x + 1, ?ii, ⟨by have := HM.out; omega, by have := HQ.out; omega⟩, ⟨by rw [HTK.out]; exact HN9.out⟩, HB9⟩
        case ii =>
          have hw : wrap64 ((x : Nat) + 1 : Int) = ((x + 1 : Nat) : Int) := by
            have := HQ.out
            have := H6.out
            unfold wrap64
            omega
          first | rfl | (simp [hw]; done) | (rw [hw])
    · have c4b0 : decide (((x : Nat) : Int) < (l6.length : Int)) = false := decide_eq_false (by omega)
      have HN2 := Aside0.mk (show Kd.N k58 58 wr w6.heap.size (fun k => w6.heap.size ≤ k) u3 l6 from by
        have hN := HN.out
        rw [List.take_of_length_le (by omega)] at hN
        exact hN)
      obtain ⟨BL, dL, eL⟩ := Kd.N_slice HN2.out
      subst eL
      have hlL := (Kd.N_reads' HN2.out).2.1
      have HBA := Aside0.mk (HB6.out.trans (HBL.out.mono HB6.out.size))
      have BK1A := Aside0.mk ((HBL.out.block g1 (blk_lt BK16.out)).trans BK16.out)
      have BK2A := Aside0.mk ((HBL.out.block g2 (blk_lt BK26.out)).trans BK26.out)
      have HF1A := Aside0.mk (Kd.F_below HF16.out HBL.out)
      have HF5A := Aside0.mk (Kd.F_below HF56.out HBL.out)
      have HIA := Aside0.mk (HI6.out.below HBL.out)
      have HFLA := Aside0.mk (Kd.F_mono (ok' := fun k => g2 < k) (Kd.N_F HN2.out) (fun k hk => Nat.lt_of_lt_of_le (blk_lt BK26.out) hk))
      clear HN HN2 HBL BK16 BK26 HF16 HF56 HI6 HB6
      go_wp2_with (first | ((with_reducible refine gate_callee (f := 68) rfl ?_); refine goesL_ (some 35) rfl rfl Try.func68 (by kernel_rfl) rfl #[.slice BL l6.length dL] rfl (by (try simp only [List.map_toArray, List.map_cons, List.map_nil]); first | done | rfl) ?_; refine (clip_raw BL l6.length dL _ hlL).mono ?_; rintro e wc ⟨rfl, hb⟩; refine ⟨_, rfl, ?_⟩; have HBC := Aside0.mk (below_step HBA.out hb); have BK1C := Aside0.mk ((hb.block g1 (blk_lt BK1A.out)).trans BK1A.out); have BK2C := Aside0.mk ((hb.block g2 (blk_lt BK2A.out)).trans BK2A.out); have HF1C := Aside0.mk (Kd.F_below HF1A.out hb); have HF5C := Aside0.mk (Kd.F_below HF5A.out hb); have HFLC := Aside0.mk (Kd.F_below HFLA.out hb); have HIC := Aside0.mk (HIA.out.below hb); clear hb; have hcz1_0 : wc.cell? ⟨g1, 0, none⟩ = some (.int .i64 o) := (blk_cell BK1C.out 0).trans rfl; have hfz1_0 := blk_frozen BK1C.out 0; have hcz1_1 : wc.cell? ⟨g1, 1, none⟩ = some (.slice B1 r2.length d1) := (blk_cell BK1C.out 1).trans rfl; have hfz1_1 := blk_frozen BK1C.out 1; have hcz1_2 : wc.cell? ⟨g1, 2, none⟩ = some (.int .u32 nx) := (blk_cell BK1C.out 2).trans rfl; have hfz1_2 := blk_frozen BK1C.out 2; have hcz1_3 : wc.cell? ⟨g1, 3, none⟩ = some (.int .i64 md) := (blk_cell BK1C.out 3).trans rfl; have hfz1_3 := blk_frozen BK1C.out 3; have hcz1_4 : wc.cell? ⟨g1, 4, none⟩ = some (.int .i64 pr) := (blk_cell BK1C.out 4).trans rfl; have hfz1_4 := blk_frozen BK1C.out 4; have hcz1_5 : wc.cell? ⟨g1, 5, none⟩ = some (.slice B5 l5.length l5.length) := (blk_cell BK1C.out 5).trans rfl; have hfz1_5 := blk_frozen BK1C.out 5; have hcz1_6 : wc.cell? ⟨g1, 6, none⟩ = some (.slice A6 l6.length c6) := (blk_cell BK1C.out 6).trans rfl; have hfz1_6 := blk_frozen BK1C.out 6; have hcz2_0 : wc.cell? ⟨g2, 0, none⟩ = some (.int .i64 0) := (blk_cell BK2C.out 0).trans rfl; have hfz2_0 := blk_frozen BK2C.out 0; have hcz2_1 : wc.cell? ⟨g2, 1, none⟩ = some (.slice none 0 0) := (blk_cell BK2C.out 1).trans rfl; have hfz2_1 := blk_frozen BK2C.out 1; have hcz2_2 : wc.cell? ⟨g2, 2, none⟩ = some (.int .u32 0) := (blk_cell BK2C.out 2).trans rfl; have hfz2_2 := blk_frozen BK2C.out 2; have hcz2_3 : wc.cell? ⟨g2, 3, none⟩ = some (.int .i64 0) := (blk_cell BK2C.out 3).trans rfl; have hfz2_3 := blk_frozen BK2C.out 3; have hcz2_4 : wc.cell? ⟨g2, 4, none⟩ = some (.int .i64 0) := (blk_cell BK2C.out 4).trans rfl; have hfz2_4 := blk_frozen BK2C.out 4; have hcz2_5 : wc.cell? ⟨g2, 5, none⟩ = some (.slice none 0 0) := (blk_cell BK2C.out 5).trans rfl; have hfz2_5 := blk_frozen BK2C.out 5; have hcz2_6 : wc.cell? ⟨g2, 6, none⟩ = some (.slice none 0 0) := (blk_cell BK2C.out 6).trans rfl; have hfz2_6 := blk_frozen BK2C.out 6; have hne12 : g1 ≠ g2 := (by have := GE2.out; omega); have hne21 : g2 ≠ g1 := (by have := GE2.out; omega)))
      have BKF := Aside0.mk (show ((((((((wc.setCell ⟨g1, 6, none⟩ (.slice BL l6.length l6.length)).setCell ⟨g2, 0, none⟩ (.int .i64 o)).setCell ⟨g2, 1, none⟩ (.slice B1 r2.length d1)).setCell ⟨g2, 2, none⟩ (.int .u32 nx)).setCell ⟨g2, 3, none⟩ (.int .i64 md)).setCell ⟨g2, 4, none⟩ (.int .i64 pr)).setCell ⟨g2, 5, none⟩ (.slice B5 l5.length l5.length)).setCell ⟨g2, 6, none⟩ (.slice BL l6.length l6.length)).heap[g2]? = some (.cells #[.int .i64 o, .slice B1 r2.length d1, .int .u32 nx, .int .i64 md, .int .i64 pr, .slice B5 l5.length l5.length, .slice BL l6.length l6.length] 46 (0, 0)) from by refine blk_put (cs := #[.int .i64 o, .slice B1 r2.length d1, .int .u32 nx, .int .i64 md, .int .i64 pr, .slice B5 l5.length l5.length, .slice none 0 0]) ?_ 6 _ rfl; refine blk_put (cs := #[.int .i64 o, .slice B1 r2.length d1, .int .u32 nx, .int .i64 md, .int .i64 pr, .slice none 0 0, .slice none 0 0]) ?_ 5 _ rfl; refine blk_put (cs := #[.int .i64 o, .slice B1 r2.length d1, .int .u32 nx, .int .i64 md, .int .i64 0, .slice none 0 0, .slice none 0 0]) ?_ 4 _ rfl; refine blk_put (cs := #[.int .i64 o, .slice B1 r2.length d1, .int .u32 nx, .int .i64 0, .int .i64 0, .slice none 0 0, .slice none 0 0]) ?_ 3 _ rfl; refine blk_put (cs := #[.int .i64 o, .slice B1 r2.length d1, .int .u32 0, .int .i64 0, .int .i64 0, .slice none 0 0, .slice none 0 0]) ?_ 2 _ rfl; refine blk_put (cs := #[.int .i64 o, .slice none 0 0, .int .u32 0, .int .i64 0, .int .i64 0, .slice none 0 0, .slice none 0 0]) ?_ 1 _ rfl; refine blk_put (cs := #[.int .i64 0, .slice none 0 0, .int .u32 0, .int .i64 0, .int .i64 0, .slice none 0 0, .slice none 0 0]) ?_ 0 _ rfl; refine blk_far ?_ (show g2 ≠ g1 from by have := GE2.out; omega) _; exact BK2C.out)
      have HE1 := Aside0.mk (Kd.F_mono (ok' := fun k => w.heap.size ≤ k) (Kd.F_far (p := ⟨g2, 6, none⟩) (Kd.F_far (p := ⟨g2, 5, none⟩) (Kd.F_far (p := ⟨g2, 4, none⟩) (Kd.F_far (p := ⟨g2, 3, none⟩) (Kd.F_far (p := ⟨g2, 2, none⟩) (Kd.F_far (p := ⟨g2, 1, none⟩) (Kd.F_far (p := ⟨g2, 0, none⟩) (Kd.F_far (p := ⟨g1, 6, none⟩) (HF1C.out) (fun k hk => by have := GE2.out; show k ≠ g1; omega) (.slice BL l6.length l6.length)) (fun k hk => by show k ≠ g2; omega) (.int .i64 o)) (fun k hk => by show k ≠ g2; omega) (.slice B1 r2.length d1)) (fun k hk => by show k ≠ g2; omega) (.int .u32 nx)) (fun k hk => by show k ≠ g2; omega) (.int .i64 md)) (fun k hk => by show k ≠ g2; omega) (.int .i64 pr)) (fun k hk => by show k ≠ g2; omega) (.slice B5 l5.length l5.length)) (fun k hk => by show k ≠ g2; omega) (.slice BL l6.length l6.length)) (fun k hk => by have := GE1.out; have := GE2.out; omega))
      have HE5 := Aside0.mk (Kd.F_mono (ok' := fun k => w.heap.size ≤ k) (Kd.F_far (p := ⟨g2, 6, none⟩) (Kd.F_far (p := ⟨g2, 5, none⟩) (Kd.F_far (p := ⟨g2, 4, none⟩) (Kd.F_far (p := ⟨g2, 3, none⟩) (Kd.F_far (p := ⟨g2, 2, none⟩) (Kd.F_far (p := ⟨g2, 1, none⟩) (Kd.F_far (p := ⟨g2, 0, none⟩) (Kd.F_far (p := ⟨g1, 6, none⟩) (HF5C.out) (fun k hk => by have := GE2.out; show k ≠ g1; omega) (.slice BL l6.length l6.length)) (fun k hk => by show k ≠ g2; omega) (.int .i64 o)) (fun k hk => by show k ≠ g2; omega) (.slice B1 r2.length d1)) (fun k hk => by show k ≠ g2; omega) (.int .u32 nx)) (fun k hk => by show k ≠ g2; omega) (.int .i64 md)) (fun k hk => by show k ≠ g2; omega) (.int .i64 pr)) (fun k hk => by show k ≠ g2; omega) (.slice B5 l5.length l5.length)) (fun k hk => by show k ≠ g2; omega) (.slice BL l6.length l6.length)) (fun k hk => by have := GE1.out; have := GE2.out; omega))
      have HE6 := Aside0.mk (Kd.F_mono (ok' := fun k => w.heap.size ≤ k) (Kd.F_far (p := ⟨g2, 6, none⟩) (Kd.F_far (p := ⟨g2, 5, none⟩) (Kd.F_far (p := ⟨g2, 4, none⟩) (Kd.F_far (p := ⟨g2, 3, none⟩) (Kd.F_far (p := ⟨g2, 2, none⟩) (Kd.F_far (p := ⟨g2, 1, none⟩) (Kd.F_far (p := ⟨g2, 0, none⟩) (Kd.F_far (p := ⟨g1, 6, none⟩) (HFLC.out) (fun k hk => by have := GE2.out; show k ≠ g1; omega) (.slice BL l6.length l6.length)) (fun k hk => by show k ≠ g2; omega) (.int .i64 o)) (fun k hk => by show k ≠ g2; omega) (.slice B1 r2.length d1)) (fun k hk => by show k ≠ g2; omega) (.int .u32 nx)) (fun k hk => by show k ≠ g2; omega) (.int .i64 md)) (fun k hk => by show k ≠ g2; omega) (.int .i64 pr)) (fun k hk => by show k ≠ g2; omega) (.slice B5 l5.length l5.length)) (fun k hk => by show k ≠ g2; omega) (.slice BL l6.length l6.length)) (fun k hk => by have := GE1.out; have := GE2.out; omega))
      have HEI := Aside0.mk (Ints.far (p := ⟨g2, 6, none⟩) (Ints.far (p := ⟨g2, 5, none⟩) (Ints.far (p := ⟨g2, 4, none⟩) (Ints.far (p := ⟨g2, 3, none⟩) (Ints.far (p := ⟨g2, 2, none⟩) (Ints.far (p := ⟨g2, 1, none⟩) (Ints.far (p := ⟨g2, 0, none⟩) (Ints.far (p := ⟨g1, 6, none⟩) (HIC.out) (.slice BL l6.length l6.length) (by have := GE2.out; show g1 < g2 + 1; omega)) (.int .i64 o) (by show g2 < g2 + 1; omega)) (.slice B1 r2.length d1) (by show g2 < g2 + 1; omega)) (.int .u32 nx) (by show g2 < g2 + 1; omega)) (.int .i64 md) (by show g2 < g2 + 1; omega)) (.int .i64 pr) (by show g2 < g2 + 1; omega)) (.slice B5 l5.length l5.length) (by show g2 < g2 + 1; omega)) (.slice BL l6.length l6.length) (by show g2 < g2 + 1; omega))
      have HEB := Aside0.mk (Below.setCell (p := ⟨g2, 6, none⟩) (Below.setCell (p := ⟨g2, 5, none⟩) (Below.setCell (p := ⟨g2, 4, none⟩) (Below.setCell (p := ⟨g2, 3, none⟩) (Below.setCell (p := ⟨g2, 2, none⟩) (Below.setCell (p := ⟨g2, 1, none⟩) (Below.setCell (p := ⟨g2, 0, none⟩) (Below.setCell (p := ⟨g1, 6, none⟩) (HBC.out) GE1.out (.slice BL l6.length l6.length)) (show w.heap.size ≤ g2 from by have := GE1.out; have := GE2.out; omega) (.int .i64 o)) (show w.heap.size ≤ g2 from by have := GE1.out; have := GE2.out; omega) (.slice B1 r2.length d1)) (show w.heap.size ≤ g2 from by have := GE1.out; have := GE2.out; omega) (.int .u32 nx)) (show w.heap.size ≤ g2 from by have := GE1.out; have := GE2.out; omega) (.int .i64 md)) (show w.heap.size ≤ g2 from by have := GE1.out; have := GE2.out; omega) (.int .i64 pr)) (show w.heap.size ≤ g2 from by have := GE1.out; have := GE2.out; omega) (.slice B5 l5.length l5.length)) (show w.heap.size ≤ g2 from by have := GE1.out; have := GE2.out; omega) (.slice BL l6.length l6.length))
      generalize ((((((((wc.setCell ⟨g1, 6, none⟩ (.slice BL l6.length l6.length)).setCell ⟨g2, 0, none⟩ (.int .i64 o)).setCell ⟨g2, 1, none⟩ (.slice B1 r2.length d1)).setCell ⟨g2, 2, none⟩ (.int .u32 nx)).setCell ⟨g2, 3, none⟩ (.int .i64 md)).setCell ⟨g2, 4, none⟩ (.int .i64 pr)).setCell ⟨g2, 5, none⟩ (.slice B5 l5.length l5.length)).setCell ⟨g2, 6, none⟩ (.slice BL l6.length l6.length)) = wF at BKF HE1 HE5 HE6 HEI HEB ⊢
      refine bodyPost_ret (results_cell_row rfl _ _ g2 46 #[.int .i64 o, .slice B1 r2.length d1, .int .u32 nx, .int .i64 md, .int .i64 pr, .slice B5 l5.length l5.length, .slice BL l6.length l6.length] (0, 0) _ rfl BKF.out Try.underlying46 rfl (by kernel_rfl)) rfl ?_
      exact ⟨B1, d1, B5, BL, rfl, HL1.out, HE1.out, HE5.out, HEI.out.lower (by have := GE1.out; have := GE2.out; omega), HE6.out, HEB.out⟩
set_option maxHeartbeats 4000000 in
set_option maxRecDepth 100000 in
theorem route_own (k : Nat) (pa pl pe o : Int) (A1 : Option Addr) (c1 : Nat) (l1 : List S38) (nx md pr : Int) (A5 : Option Addr) (c5 : Nat) (l5 : List Int) (A6 : Option Addr) (c6 : Nat) (l6 : List S58) (st : Int) (r2 : List S38) (w : World)
    (hr1 : Kd.C k38 w A1 l1.length l1) (hc1 : l1.length ≤ c1) (hr5 : Kd.C (Kd.int .u32) w A5 l5.length l5) (hc5 : l5.length ≤ c5) (hr6 : Kd.C k58 w A6 l6.length l6) (hc6 : l6.length ≤ c6) (hp : path_Own.f k l1 = some r2) (h5 : slices_Clone_uint32_uint32.f l5 = some l5) (h6 : l6.length < 4000) (hd : ∀ r ∈ l6, bytes_Clone.f r.f2 = some r.f2) :
    Calls Try.prog 37 #[.agg #[.int .u32 pa, .int .i64 pl, .int .i64 pe, .int .i64 o, .slice A1 l1.length c1, .int .u32 nx, .int .i64 md, .int .i64 pr, .slice A5 l5.length c5, .slice A6 l6.length c6, .int .i64 st]] w fun e w' => ∃ B1 d1 B5 B6, e = .returned (.agg #[.int .u32 pa, .int .i64 pl, .int .i64 pe, .int .i64 o, .slice B1 r2.length d1, .int .u32 nx, .int .i64 md, .int .i64 pr, .slice B5 l5.length l5.length, .slice B6 l6.length l6.length, .int .i64 st]) ∧ r2.length ≤ d1 ∧ Kd.F k38 w' (fun k => w.heap.size ≤ k) B1 r2.length r2 ∧ Kd.F (Kd.int .u32) w' (fun k => w.heap.size ≤ k) B5 l5.length l5 ∧ Ints w.heap.size w' .u32 40 B5 l5.length ∧ Kd.F k58 w' (fun k => w.heap.size ≤ k) B6 l6.length l6 ∧ Below w.heap.size w w' := by
  have HR1 := Aside0.mk hr1
  have HR5 := Aside0.mk hr5
  have HR6 := Aside0.mk hr6
  have HC := Aside0.mk (And.intro hc1 (And.intro hc5 hc6))
  have HP := Aside0.mk hp
  have H5 := Aside0.mk h5
  have H6 := Aside0.mk h6
  have HD := Aside0.mk hd
  have hu46 := Try.underlying46
  have hu48 := Try.underlying48
  have HB := Aside0.mk (Below.refl w.heap.size w)
  clear hr1 hc1 hr5 hc5 hr6 hc6 hp h5 h6 hd
  go_enter Try.func37, Try.ntmps37
  go_wp2_with (first | ((with_reducible refine gate_dst (N := 1) rfl ?_); refine box_event ?hg (N := 1) ?hd (cs := #[.int .u32 pa, .int .i64 pl, .int .i64 pe, .int .i64 o, .slice A1 l1.length c1, .int .u32 nx, .int .i64 md, .int .i64 pr, .slice A5 l5.length c5, .slice A6 l6.length c6, .int .i64 st]) (t := 48) ?hr ?_; (case hd => rfl); (case hg => rfl); (case hr => first | (go_simp; done) | (go_simp; rfl)); intro g1 hg w1 hbox hb; have HB1 := Aside0.mk (below_step HB.out hb); have BK11 := Aside0.mk hbox; have GE1 := Aside0.mk (show w.heap.size ≤ g1 from by rw [hg]; exact Nat.le_refl _); clear hbox hb hg) | ((with_reducible refine gate_dst (N := 2) rfl ?_); refine box_event ?hg (N := 2) ?hd (cs := #[.int .u32 0, .int .i64 0, .int .i64 0, .int .i64 0, .slice none 0 0, .int .u32 0, .int .i64 0, .int .i64 0, .slice none 0 0, .slice none 0 0, .int .i64 0]) (t := 48) ?hr ?_; (case hd => rfl); (case hg => rfl); (case hr => first | (go_simp; done) | (go_simp; rfl)); intro g2 hg w2 hbox hb; have HB2 := Aside0.mk (below_step HB1.out hb); have BK1 := Aside0.mk (show w2.heap[g1]? = _ from (hb.block _ (blk_lt BK11.out)).trans BK11.out); have BK2 := Aside0.mk hbox; have GE2 := Aside0.mk (show g1 < g2 from by rw [hg]; exact blk_lt BK11.out); clear BK11; have hcz1_0 : w2.cell? ⟨g1, 0, none⟩ = some (.int .u32 pa) := (blk_cell BK1.out 0).trans rfl; have hfz1_0 := blk_frozen BK1.out 0; have hcz1_1 : w2.cell? ⟨g1, 1, none⟩ = some (.int .i64 pl) := (blk_cell BK1.out 1).trans rfl; have hfz1_1 := blk_frozen BK1.out 1; have hcz1_2 : w2.cell? ⟨g1, 2, none⟩ = some (.int .i64 pe) := (blk_cell BK1.out 2).trans rfl; have hfz1_2 := blk_frozen BK1.out 2; have hcz1_3 : w2.cell? ⟨g1, 3, none⟩ = some (.int .i64 o) := (blk_cell BK1.out 3).trans rfl; have hfz1_3 := blk_frozen BK1.out 3; have hcz1_4 : w2.cell? ⟨g1, 4, none⟩ = some (.slice A1 l1.length c1) := (blk_cell BK1.out 4).trans rfl; have hfz1_4 := blk_frozen BK1.out 4; have hcz1_5 : w2.cell? ⟨g1, 5, none⟩ = some (.int .u32 nx) := (blk_cell BK1.out 5).trans rfl; have hfz1_5 := blk_frozen BK1.out 5; have hcz1_6 : w2.cell? ⟨g1, 6, none⟩ = some (.int .i64 md) := (blk_cell BK1.out 6).trans rfl; have hfz1_6 := blk_frozen BK1.out 6; have hcz1_7 : w2.cell? ⟨g1, 7, none⟩ = some (.int .i64 pr) := (blk_cell BK1.out 7).trans rfl; have hfz1_7 := blk_frozen BK1.out 7; have hcz1_8 : w2.cell? ⟨g1, 8, none⟩ = some (.slice A5 l5.length c5) := (blk_cell BK1.out 8).trans rfl; have hfz1_8 := blk_frozen BK1.out 8; have hcz1_9 : w2.cell? ⟨g1, 9, none⟩ = some (.slice A6 l6.length c6) := (blk_cell BK1.out 9).trans rfl; have hfz1_9 := blk_frozen BK1.out 9; have hcz1_10 : w2.cell? ⟨g1, 10, none⟩ = some (.int .i64 st) := (blk_cell BK1.out 10).trans rfl; have hfz1_10 := blk_frozen BK1.out 10; clear hbox hb hg) | ((with_reducible refine gate_callee (f := 54) rfl ?_); refine goesL_ (some 5) rfl rfl Try.func54 (by kernel_rfl) rfl #[.agg #[.int .i64 o, .slice A1 l1.length c1, .int .u32 nx, .int .i64 md, .int .i64 pr, .slice A5 l5.length c5, .slice A6 l6.length c6]] rfl (by (try simp only [List.map_toArray, List.map_cons, List.map_nil]); first | done | rfl) ?_; refine (attr_own k o A1 c1 l1 nx md pr A5 c5 l5 A6 c6 l6 r2 _ (Kd.C_below HR1.out HB2.out) HC.out.1 (Kd.C_below HR5.out HB2.out) HC.out.2.1 (Kd.C_below HR6.out HB2.out) HC.out.2.2 HP.out H5.out H6.out HD.out).mono ?_; rintro e w5 ⟨B1, d1, B5, B6, rfl, hl1, hq1, hq5, hqi, hq6, hb⟩; refine ⟨_, rfl, ?_⟩; have HL1 := Aside0.mk hl1; have HQ1 := Aside0.mk hq1; have HQ5 := Aside0.mk hq5; have HQ6 := Aside0.mk hq6; have HQI := Aside0.mk hqi; have HB5 := Aside0.mk (below_step HB2.out hb); have BK1C := Aside0.mk ((hb.block g1 (blk_lt BK1.out)).trans BK1.out); have BK2C := Aside0.mk ((hb.block g2 (blk_lt BK2.out)).trans BK2.out); have HGT := Aside0.mk (show g2 < _ from blk_lt BK2.out); clear hl1 hq1 hq5 hqi hq6 hb hcz1_0 hfz1_0 hcz1_1 hfz1_1 hcz1_2 hfz1_2 hcz1_3 hfz1_3 hcz1_4 hfz1_4 hcz1_5 hfz1_5 hcz1_6 hfz1_6 hcz1_7 hfz1_7 hcz1_8 hfz1_8 hcz1_9 hfz1_9 hcz1_10 hfz1_10; have hcz3_0 : w5.cell? ⟨g1, 0, none⟩ = some (.int .u32 pa) := (blk_cell BK1C.out 0).trans rfl; have hfz3_0 := blk_frozen BK1C.out 0; have hcz3_1 : w5.cell? ⟨g1, 1, none⟩ = some (.int .i64 pl) := (blk_cell BK1C.out 1).trans rfl; have hfz3_1 := blk_frozen BK1C.out 1; have hcz3_2 : w5.cell? ⟨g1, 2, none⟩ = some (.int .i64 pe) := (blk_cell BK1C.out 2).trans rfl; have hfz3_2 := blk_frozen BK1C.out 2; have hcz3_3 : w5.cell? ⟨g1, 3, none⟩ = some (.int .i64 o) := (blk_cell BK1C.out 3).trans rfl; have hfz3_3 := blk_frozen BK1C.out 3; have hcz3_4 : w5.cell? ⟨g1, 4, none⟩ = some (.slice A1 l1.length c1) := (blk_cell BK1C.out 4).trans rfl; have hfz3_4 := blk_frozen BK1C.out 4; have hcz3_5 : w5.cell? ⟨g1, 5, none⟩ = some (.int .u32 nx) := (blk_cell BK1C.out 5).trans rfl; have hfz3_5 := blk_frozen BK1C.out 5; have hcz3_6 : w5.cell? ⟨g1, 6, none⟩ = some (.int .i64 md) := (blk_cell BK1C.out 6).trans rfl; have hfz3_6 := blk_frozen BK1C.out 6; have hcz3_7 : w5.cell? ⟨g1, 7, none⟩ = some (.int .i64 pr) := (blk_cell BK1C.out 7).trans rfl; have hfz3_7 := blk_frozen BK1C.out 7; have hcz3_8 : w5.cell? ⟨g1, 8, none⟩ = some (.slice A5 l5.length c5) := (blk_cell BK1C.out 8).trans rfl; have hfz3_8 := blk_frozen BK1C.out 8; have hcz3_9 : w5.cell? ⟨g1, 9, none⟩ = some (.slice A6 l6.length c6) := (blk_cell BK1C.out 9).trans rfl; have hfz3_9 := blk_frozen BK1C.out 9; have hcz3_10 : w5.cell? ⟨g1, 10, none⟩ = some (.int .i64 st) := (blk_cell BK1C.out 10).trans rfl; have hfz3_10 := blk_frozen BK1C.out 10; have hcz4_0 : w5.cell? ⟨g2, 0, none⟩ = some (.int .u32 0) := (blk_cell BK2C.out 0).trans rfl; have hfz4_0 := blk_frozen BK2C.out 0; have hcz4_1 : w5.cell? ⟨g2, 1, none⟩ = some (.int .i64 0) := (blk_cell BK2C.out 1).trans rfl; have hfz4_1 := blk_frozen BK2C.out 1; have hcz4_2 : w5.cell? ⟨g2, 2, none⟩ = some (.int .i64 0) := (blk_cell BK2C.out 2).trans rfl; have hfz4_2 := blk_frozen BK2C.out 2; have hcz4_3 : w5.cell? ⟨g2, 3, none⟩ = some (.int .i64 0) := (blk_cell BK2C.out 3).trans rfl; have hfz4_3 := blk_frozen BK2C.out 3; have hcz4_4 : w5.cell? ⟨g2, 4, none⟩ = some (.slice none 0 0) := (blk_cell BK2C.out 4).trans rfl; have hfz4_4 := blk_frozen BK2C.out 4; have hcz4_5 : w5.cell? ⟨g2, 5, none⟩ = some (.int .u32 0) := (blk_cell BK2C.out 5).trans rfl; have hfz4_5 := blk_frozen BK2C.out 5; have hcz4_6 : w5.cell? ⟨g2, 6, none⟩ = some (.int .i64 0) := (blk_cell BK2C.out 6).trans rfl; have hfz4_6 := blk_frozen BK2C.out 6; have hcz4_7 : w5.cell? ⟨g2, 7, none⟩ = some (.int .i64 0) := (blk_cell BK2C.out 7).trans rfl; have hfz4_7 := blk_frozen BK2C.out 7; have hcz4_8 : w5.cell? ⟨g2, 8, none⟩ = some (.slice none 0 0) := (blk_cell BK2C.out 8).trans rfl; have hfz4_8 := blk_frozen BK2C.out 8; have hcz4_9 : w5.cell? ⟨g2, 9, none⟩ = some (.slice none 0 0) := (blk_cell BK2C.out 9).trans rfl; have hfz4_9 := blk_frozen BK2C.out 9; have hcz4_10 : w5.cell? ⟨g2, 10, none⟩ = some (.int .i64 0) := (blk_cell BK2C.out 10).trans rfl; have hfz4_10 := blk_frozen BK2C.out 10; have hne12 : g1 ≠ g2 := (by have := GE2.out; omega); have hne21 : g2 ≠ g1 := (by have := GE2.out; omega)))
  have BKF := Aside0.mk (show ((((((((((((((((((w5.setCell ⟨g1, 3, none⟩ (.int .i64 o)).setCell ⟨g1, 4, none⟩ (.slice B1 r2.length d1)).setCell ⟨g1, 5, none⟩ (.int .u32 nx)).setCell ⟨g1, 6, none⟩ (.int .i64 md)).setCell ⟨g1, 7, none⟩ (.int .i64 pr)).setCell ⟨g1, 8, none⟩ (.slice B5 l5.length l5.length)).setCell ⟨g1, 9, none⟩ (.slice B6 l6.length l6.length)).setCell ⟨g2, 0, none⟩ (.int .u32 pa)).setCell ⟨g2, 1, none⟩ (.int .i64 pl)).setCell ⟨g2, 2, none⟩ (.int .i64 pe)).setCell ⟨g2, 3, none⟩ (.int .i64 o)).setCell ⟨g2, 4, none⟩ (.slice B1 r2.length d1)).setCell ⟨g2, 5, none⟩ (.int .u32 nx)).setCell ⟨g2, 6, none⟩ (.int .i64 md)).setCell ⟨g2, 7, none⟩ (.int .i64 pr)).setCell ⟨g2, 8, none⟩ (.slice B5 l5.length l5.length)).setCell ⟨g2, 9, none⟩ (.slice B6 l6.length l6.length)).setCell ⟨g2, 10, none⟩ (.int .i64 st)).heap[g2]? = some (.cells #[.int .u32 pa, .int .i64 pl, .int .i64 pe, .int .i64 o, .slice B1 r2.length d1, .int .u32 nx, .int .i64 md, .int .i64 pr, .slice B5 l5.length l5.length, .slice B6 l6.length l6.length, .int .i64 st] 48 (0, 0)) from by refine blk_put (cs := #[.int .u32 pa, .int .i64 pl, .int .i64 pe, .int .i64 o, .slice B1 r2.length d1, .int .u32 nx, .int .i64 md, .int .i64 pr, .slice B5 l5.length l5.length, .slice B6 l6.length l6.length, .int .i64 0]) ?_ 10 _ rfl; refine blk_put (cs := #[.int .u32 pa, .int .i64 pl, .int .i64 pe, .int .i64 o, .slice B1 r2.length d1, .int .u32 nx, .int .i64 md, .int .i64 pr, .slice B5 l5.length l5.length, .slice none 0 0, .int .i64 0]) ?_ 9 _ rfl; refine blk_put (cs := #[.int .u32 pa, .int .i64 pl, .int .i64 pe, .int .i64 o, .slice B1 r2.length d1, .int .u32 nx, .int .i64 md, .int .i64 pr, .slice none 0 0, .slice none 0 0, .int .i64 0]) ?_ 8 _ rfl; refine blk_put (cs := #[.int .u32 pa, .int .i64 pl, .int .i64 pe, .int .i64 o, .slice B1 r2.length d1, .int .u32 nx, .int .i64 md, .int .i64 0, .slice none 0 0, .slice none 0 0, .int .i64 0]) ?_ 7 _ rfl; refine blk_put (cs := #[.int .u32 pa, .int .i64 pl, .int .i64 pe, .int .i64 o, .slice B1 r2.length d1, .int .u32 nx, .int .i64 0, .int .i64 0, .slice none 0 0, .slice none 0 0, .int .i64 0]) ?_ 6 _ rfl; refine blk_put (cs := #[.int .u32 pa, .int .i64 pl, .int .i64 pe, .int .i64 o, .slice B1 r2.length d1, .int .u32 0, .int .i64 0, .int .i64 0, .slice none 0 0, .slice none 0 0, .int .i64 0]) ?_ 5 _ rfl; refine blk_put (cs := #[.int .u32 pa, .int .i64 pl, .int .i64 pe, .int .i64 o, .slice none 0 0, .int .u32 0, .int .i64 0, .int .i64 0, .slice none 0 0, .slice none 0 0, .int .i64 0]) ?_ 4 _ rfl; refine blk_put (cs := #[.int .u32 pa, .int .i64 pl, .int .i64 pe, .int .i64 0, .slice none 0 0, .int .u32 0, .int .i64 0, .int .i64 0, .slice none 0 0, .slice none 0 0, .int .i64 0]) ?_ 3 _ rfl; refine blk_put (cs := #[.int .u32 pa, .int .i64 pl, .int .i64 0, .int .i64 0, .slice none 0 0, .int .u32 0, .int .i64 0, .int .i64 0, .slice none 0 0, .slice none 0 0, .int .i64 0]) ?_ 2 _ rfl; refine blk_put (cs := #[.int .u32 pa, .int .i64 0, .int .i64 0, .int .i64 0, .slice none 0 0, .int .u32 0, .int .i64 0, .int .i64 0, .slice none 0 0, .slice none 0 0, .int .i64 0]) ?_ 1 _ rfl; refine blk_put (cs := #[.int .u32 0, .int .i64 0, .int .i64 0, .int .i64 0, .slice none 0 0, .int .u32 0, .int .i64 0, .int .i64 0, .slice none 0 0, .slice none 0 0, .int .i64 0]) ?_ 0 _ rfl; refine blk_far ?_ (show g2 ≠ g1 from by have := GE2.out; omega) _; refine blk_far ?_ (show g2 ≠ g1 from by have := GE2.out; omega) _; refine blk_far ?_ (show g2 ≠ g1 from by have := GE2.out; omega) _; refine blk_far ?_ (show g2 ≠ g1 from by have := GE2.out; omega) _; refine blk_far ?_ (show g2 ≠ g1 from by have := GE2.out; omega) _; refine blk_far ?_ (show g2 ≠ g1 from by have := GE2.out; omega) _; refine blk_far ?_ (show g2 ≠ g1 from by have := GE2.out; omega) _; exact BK2C.out)
  have HE1 := Aside0.mk (Kd.F_mono (ok' := fun k => w.heap.size ≤ k) (Kd.F_far (p := ⟨g2, 10, none⟩) (Kd.F_far (p := ⟨g2, 9, none⟩) (Kd.F_far (p := ⟨g2, 8, none⟩) (Kd.F_far (p := ⟨g2, 7, none⟩) (Kd.F_far (p := ⟨g2, 6, none⟩) (Kd.F_far (p := ⟨g2, 5, none⟩) (Kd.F_far (p := ⟨g2, 4, none⟩) (Kd.F_far (p := ⟨g2, 3, none⟩) (Kd.F_far (p := ⟨g2, 2, none⟩) (Kd.F_far (p := ⟨g2, 1, none⟩) (Kd.F_far (p := ⟨g2, 0, none⟩) (Kd.F_far (p := ⟨g1, 9, none⟩) (Kd.F_far (p := ⟨g1, 8, none⟩) (Kd.F_far (p := ⟨g1, 7, none⟩) (Kd.F_far (p := ⟨g1, 6, none⟩) (Kd.F_far (p := ⟨g1, 5, none⟩) (Kd.F_far (p := ⟨g1, 4, none⟩) (Kd.F_far (p := ⟨g1, 3, none⟩) (HQ1.out) (fun k hk => by have := GE2.out; have := HGT.out; show k ≠ g1; omega) (.int .i64 o)) (fun k hk => by have := GE2.out; have := HGT.out; show k ≠ g1; omega) (.slice B1 r2.length d1)) (fun k hk => by have := GE2.out; have := HGT.out; show k ≠ g1; omega) (.int .u32 nx)) (fun k hk => by have := GE2.out; have := HGT.out; show k ≠ g1; omega) (.int .i64 md)) (fun k hk => by have := GE2.out; have := HGT.out; show k ≠ g1; omega) (.int .i64 pr)) (fun k hk => by have := GE2.out; have := HGT.out; show k ≠ g1; omega) (.slice B5 l5.length l5.length)) (fun k hk => by have := GE2.out; have := HGT.out; show k ≠ g1; omega) (.slice B6 l6.length l6.length)) (fun k hk => by have := HGT.out; show k ≠ g2; omega) (.int .u32 pa)) (fun k hk => by have := HGT.out; show k ≠ g2; omega) (.int .i64 pl)) (fun k hk => by have := HGT.out; show k ≠ g2; omega) (.int .i64 pe)) (fun k hk => by have := HGT.out; show k ≠ g2; omega) (.int .i64 o)) (fun k hk => by have := HGT.out; show k ≠ g2; omega) (.slice B1 r2.length d1)) (fun k hk => by have := HGT.out; show k ≠ g2; omega) (.int .u32 nx)) (fun k hk => by have := HGT.out; show k ≠ g2; omega) (.int .i64 md)) (fun k hk => by have := HGT.out; show k ≠ g2; omega) (.int .i64 pr)) (fun k hk => by have := HGT.out; show k ≠ g2; omega) (.slice B5 l5.length l5.length)) (fun k hk => by have := HGT.out; show k ≠ g2; omega) (.slice B6 l6.length l6.length)) (fun k hk => by have := HGT.out; show k ≠ g2; omega) (.int .i64 st)) (fun k hk => by have := GE1.out; have := GE2.out; have := HGT.out; omega))
  have HE5 := Aside0.mk (Kd.F_mono (ok' := fun k => w.heap.size ≤ k) (Kd.F_far (p := ⟨g2, 10, none⟩) (Kd.F_far (p := ⟨g2, 9, none⟩) (Kd.F_far (p := ⟨g2, 8, none⟩) (Kd.F_far (p := ⟨g2, 7, none⟩) (Kd.F_far (p := ⟨g2, 6, none⟩) (Kd.F_far (p := ⟨g2, 5, none⟩) (Kd.F_far (p := ⟨g2, 4, none⟩) (Kd.F_far (p := ⟨g2, 3, none⟩) (Kd.F_far (p := ⟨g2, 2, none⟩) (Kd.F_far (p := ⟨g2, 1, none⟩) (Kd.F_far (p := ⟨g2, 0, none⟩) (Kd.F_far (p := ⟨g1, 9, none⟩) (Kd.F_far (p := ⟨g1, 8, none⟩) (Kd.F_far (p := ⟨g1, 7, none⟩) (Kd.F_far (p := ⟨g1, 6, none⟩) (Kd.F_far (p := ⟨g1, 5, none⟩) (Kd.F_far (p := ⟨g1, 4, none⟩) (Kd.F_far (p := ⟨g1, 3, none⟩) (HQ5.out) (fun k hk => by have := GE2.out; have := HGT.out; show k ≠ g1; omega) (.int .i64 o)) (fun k hk => by have := GE2.out; have := HGT.out; show k ≠ g1; omega) (.slice B1 r2.length d1)) (fun k hk => by have := GE2.out; have := HGT.out; show k ≠ g1; omega) (.int .u32 nx)) (fun k hk => by have := GE2.out; have := HGT.out; show k ≠ g1; omega) (.int .i64 md)) (fun k hk => by have := GE2.out; have := HGT.out; show k ≠ g1; omega) (.int .i64 pr)) (fun k hk => by have := GE2.out; have := HGT.out; show k ≠ g1; omega) (.slice B5 l5.length l5.length)) (fun k hk => by have := GE2.out; have := HGT.out; show k ≠ g1; omega) (.slice B6 l6.length l6.length)) (fun k hk => by have := HGT.out; show k ≠ g2; omega) (.int .u32 pa)) (fun k hk => by have := HGT.out; show k ≠ g2; omega) (.int .i64 pl)) (fun k hk => by have := HGT.out; show k ≠ g2; omega) (.int .i64 pe)) (fun k hk => by have := HGT.out; show k ≠ g2; omega) (.int .i64 o)) (fun k hk => by have := HGT.out; show k ≠ g2; omega) (.slice B1 r2.length d1)) (fun k hk => by have := HGT.out; show k ≠ g2; omega) (.int .u32 nx)) (fun k hk => by have := HGT.out; show k ≠ g2; omega) (.int .i64 md)) (fun k hk => by have := HGT.out; show k ≠ g2; omega) (.int .i64 pr)) (fun k hk => by have := HGT.out; show k ≠ g2; omega) (.slice B5 l5.length l5.length)) (fun k hk => by have := HGT.out; show k ≠ g2; omega) (.slice B6 l6.length l6.length)) (fun k hk => by have := HGT.out; show k ≠ g2; omega) (.int .i64 st)) (fun k hk => by have := GE1.out; have := GE2.out; have := HGT.out; omega))
  have HE6 := Aside0.mk (Kd.F_mono (ok' := fun k => w.heap.size ≤ k) (Kd.F_far (p := ⟨g2, 10, none⟩) (Kd.F_far (p := ⟨g2, 9, none⟩) (Kd.F_far (p := ⟨g2, 8, none⟩) (Kd.F_far (p := ⟨g2, 7, none⟩) (Kd.F_far (p := ⟨g2, 6, none⟩) (Kd.F_far (p := ⟨g2, 5, none⟩) (Kd.F_far (p := ⟨g2, 4, none⟩) (Kd.F_far (p := ⟨g2, 3, none⟩) (Kd.F_far (p := ⟨g2, 2, none⟩) (Kd.F_far (p := ⟨g2, 1, none⟩) (Kd.F_far (p := ⟨g2, 0, none⟩) (Kd.F_far (p := ⟨g1, 9, none⟩) (Kd.F_far (p := ⟨g1, 8, none⟩) (Kd.F_far (p := ⟨g1, 7, none⟩) (Kd.F_far (p := ⟨g1, 6, none⟩) (Kd.F_far (p := ⟨g1, 5, none⟩) (Kd.F_far (p := ⟨g1, 4, none⟩) (Kd.F_far (p := ⟨g1, 3, none⟩) (HQ6.out) (fun k hk => by have := GE2.out; have := HGT.out; show k ≠ g1; omega) (.int .i64 o)) (fun k hk => by have := GE2.out; have := HGT.out; show k ≠ g1; omega) (.slice B1 r2.length d1)) (fun k hk => by have := GE2.out; have := HGT.out; show k ≠ g1; omega) (.int .u32 nx)) (fun k hk => by have := GE2.out; have := HGT.out; show k ≠ g1; omega) (.int .i64 md)) (fun k hk => by have := GE2.out; have := HGT.out; show k ≠ g1; omega) (.int .i64 pr)) (fun k hk => by have := GE2.out; have := HGT.out; show k ≠ g1; omega) (.slice B5 l5.length l5.length)) (fun k hk => by have := GE2.out; have := HGT.out; show k ≠ g1; omega) (.slice B6 l6.length l6.length)) (fun k hk => by have := HGT.out; show k ≠ g2; omega) (.int .u32 pa)) (fun k hk => by have := HGT.out; show k ≠ g2; omega) (.int .i64 pl)) (fun k hk => by have := HGT.out; show k ≠ g2; omega) (.int .i64 pe)) (fun k hk => by have := HGT.out; show k ≠ g2; omega) (.int .i64 o)) (fun k hk => by have := HGT.out; show k ≠ g2; omega) (.slice B1 r2.length d1)) (fun k hk => by have := HGT.out; show k ≠ g2; omega) (.int .u32 nx)) (fun k hk => by have := HGT.out; show k ≠ g2; omega) (.int .i64 md)) (fun k hk => by have := HGT.out; show k ≠ g2; omega) (.int .i64 pr)) (fun k hk => by have := HGT.out; show k ≠ g2; omega) (.slice B5 l5.length l5.length)) (fun k hk => by have := HGT.out; show k ≠ g2; omega) (.slice B6 l6.length l6.length)) (fun k hk => by have := HGT.out; show k ≠ g2; omega) (.int .i64 st)) (fun k hk => by have := GE1.out; have := GE2.out; have := HGT.out; omega))
  have HEI := Aside0.mk (Ints.far (p := ⟨g2, 10, none⟩) (Ints.far (p := ⟨g2, 9, none⟩) (Ints.far (p := ⟨g2, 8, none⟩) (Ints.far (p := ⟨g2, 7, none⟩) (Ints.far (p := ⟨g2, 6, none⟩) (Ints.far (p := ⟨g2, 5, none⟩) (Ints.far (p := ⟨g2, 4, none⟩) (Ints.far (p := ⟨g2, 3, none⟩) (Ints.far (p := ⟨g2, 2, none⟩) (Ints.far (p := ⟨g2, 1, none⟩) (Ints.far (p := ⟨g2, 0, none⟩) (Ints.far (p := ⟨g1, 9, none⟩) (Ints.far (p := ⟨g1, 8, none⟩) (Ints.far (p := ⟨g1, 7, none⟩) (Ints.far (p := ⟨g1, 6, none⟩) (Ints.far (p := ⟨g1, 5, none⟩) (Ints.far (p := ⟨g1, 4, none⟩) (Ints.far (p := ⟨g1, 3, none⟩) (HQI.out) (.int .i64 o) (by have := GE2.out; have := HGT.out; show g1 < w2.heap.size; omega)) (.slice B1 r2.length d1) (by have := GE2.out; have := HGT.out; show g1 < w2.heap.size; omega)) (.int .u32 nx) (by have := GE2.out; have := HGT.out; show g1 < w2.heap.size; omega)) (.int .i64 md) (by have := GE2.out; have := HGT.out; show g1 < w2.heap.size; omega)) (.int .i64 pr) (by have := GE2.out; have := HGT.out; show g1 < w2.heap.size; omega)) (.slice B5 l5.length l5.length) (by have := GE2.out; have := HGT.out; show g1 < w2.heap.size; omega)) (.slice B6 l6.length l6.length) (by have := GE2.out; have := HGT.out; show g1 < w2.heap.size; omega)) (.int .u32 pa) (by have := HGT.out; show g2 < w2.heap.size; omega)) (.int .i64 pl) (by have := HGT.out; show g2 < w2.heap.size; omega)) (.int .i64 pe) (by have := HGT.out; show g2 < w2.heap.size; omega)) (.int .i64 o) (by have := HGT.out; show g2 < w2.heap.size; omega)) (.slice B1 r2.length d1) (by have := HGT.out; show g2 < w2.heap.size; omega)) (.int .u32 nx) (by have := HGT.out; show g2 < w2.heap.size; omega)) (.int .i64 md) (by have := HGT.out; show g2 < w2.heap.size; omega)) (.int .i64 pr) (by have := HGT.out; show g2 < w2.heap.size; omega)) (.slice B5 l5.length l5.length) (by have := HGT.out; show g2 < w2.heap.size; omega)) (.slice B6 l6.length l6.length) (by have := HGT.out; show g2 < w2.heap.size; omega)) (.int .i64 st) (by have := HGT.out; show g2 < w2.heap.size; omega))
  have HEB := Aside0.mk (Below.setCell (p := ⟨g2, 10, none⟩) (Below.setCell (p := ⟨g2, 9, none⟩) (Below.setCell (p := ⟨g2, 8, none⟩) (Below.setCell (p := ⟨g2, 7, none⟩) (Below.setCell (p := ⟨g2, 6, none⟩) (Below.setCell (p := ⟨g2, 5, none⟩) (Below.setCell (p := ⟨g2, 4, none⟩) (Below.setCell (p := ⟨g2, 3, none⟩) (Below.setCell (p := ⟨g2, 2, none⟩) (Below.setCell (p := ⟨g2, 1, none⟩) (Below.setCell (p := ⟨g2, 0, none⟩) (Below.setCell (p := ⟨g1, 9, none⟩) (Below.setCell (p := ⟨g1, 8, none⟩) (Below.setCell (p := ⟨g1, 7, none⟩) (Below.setCell (p := ⟨g1, 6, none⟩) (Below.setCell (p := ⟨g1, 5, none⟩) (Below.setCell (p := ⟨g1, 4, none⟩) (Below.setCell (p := ⟨g1, 3, none⟩) (HB5.out) GE1.out (.int .i64 o)) GE1.out (.slice B1 r2.length d1)) GE1.out (.int .u32 nx)) GE1.out (.int .i64 md)) GE1.out (.int .i64 pr)) GE1.out (.slice B5 l5.length l5.length)) GE1.out (.slice B6 l6.length l6.length)) (show w.heap.size ≤ g2 from by have := GE1.out; have := GE2.out; omega) (.int .u32 pa)) (show w.heap.size ≤ g2 from by have := GE1.out; have := GE2.out; omega) (.int .i64 pl)) (show w.heap.size ≤ g2 from by have := GE1.out; have := GE2.out; omega) (.int .i64 pe)) (show w.heap.size ≤ g2 from by have := GE1.out; have := GE2.out; omega) (.int .i64 o)) (show w.heap.size ≤ g2 from by have := GE1.out; have := GE2.out; omega) (.slice B1 r2.length d1)) (show w.heap.size ≤ g2 from by have := GE1.out; have := GE2.out; omega) (.int .u32 nx)) (show w.heap.size ≤ g2 from by have := GE1.out; have := GE2.out; omega) (.int .i64 md)) (show w.heap.size ≤ g2 from by have := GE1.out; have := GE2.out; omega) (.int .i64 pr)) (show w.heap.size ≤ g2 from by have := GE1.out; have := GE2.out; omega) (.slice B5 l5.length l5.length)) (show w.heap.size ≤ g2 from by have := GE1.out; have := GE2.out; omega) (.slice B6 l6.length l6.length)) (show w.heap.size ≤ g2 from by have := GE1.out; have := GE2.out; omega) (.int .i64 st))
  generalize ((((((((((((((((((w5.setCell ⟨g1, 3, none⟩ (.int .i64 o)).setCell ⟨g1, 4, none⟩ (.slice B1 r2.length d1)).setCell ⟨g1, 5, none⟩ (.int .u32 nx)).setCell ⟨g1, 6, none⟩ (.int .i64 md)).setCell ⟨g1, 7, none⟩ (.int .i64 pr)).setCell ⟨g1, 8, none⟩ (.slice B5 l5.length l5.length)).setCell ⟨g1, 9, none⟩ (.slice B6 l6.length l6.length)).setCell ⟨g2, 0, none⟩ (.int .u32 pa)).setCell ⟨g2, 1, none⟩ (.int .i64 pl)).setCell ⟨g2, 2, none⟩ (.int .i64 pe)).setCell ⟨g2, 3, none⟩ (.int .i64 o)).setCell ⟨g2, 4, none⟩ (.slice B1 r2.length d1)).setCell ⟨g2, 5, none⟩ (.int .u32 nx)).setCell ⟨g2, 6, none⟩ (.int .i64 md)).setCell ⟨g2, 7, none⟩ (.int .i64 pr)).setCell ⟨g2, 8, none⟩ (.slice B5 l5.length l5.length)).setCell ⟨g2, 9, none⟩ (.slice B6 l6.length l6.length)).setCell ⟨g2, 10, none⟩ (.int .i64 st)) = wF at BKF HE1 HE5 HE6 HEI HEB ⊢
  refine bodyPost_ret (results_cell_row rfl _ _ g2 48 #[.int .u32 pa, .int .i64 pl, .int .i64 pe, .int .i64 o, .slice B1 r2.length d1, .int .u32 nx, .int .i64 md, .int .i64 pr, .slice B5 l5.length l5.length, .slice B6 l6.length l6.length, .int .i64 st] (0, 0) _ rfl BKF.out Try.underlying48 rfl (by kernel_rfl)) rfl ?_
  exact ⟨B1, d1, B5, B6, rfl, HL1.out, HE1.out, HE5.out, HEI.out.lower (by have := GE1.out; have := GE2.out; have := HGT.out; omega), HE6.out, HEB.out⟩
theorem seven_r (pa pl pe o : Int) (A1 : Option Addr) (n1 c1 : Nat) (nx md pr : Int) (A5 : Option Addr) (n5 c5 : Nat) (A6 : Option Addr) (n6 c6 : Nat) (st : Int) : ∀ (j : Nat) (v : Value), ([.int .i64 o, .slice A1 n1 c1, .int .u32 nx, .int .i64 md, .int .i64 pr, .slice A5 n5 c5, .slice A6 n6 c6] : List Value)[j]? = some v → (#[.int .u32 pa, .int .i64 pl, .int .i64 pe, .int .i64 o, .slice A1 n1 c1, .int .u32 nx, .int .i64 md, .int .i64 pr, .slice A5 n5 c5, .slice A6 n6 c6, .int .i64 st] : Array Value).toList[3 + j]? = some v := by
  intro j v h
  match j with
  | 0 => exact h
  | 1 => exact h
  | 2 => exact h
  | 3 => exact h
  | 4 => exact h
  | 5 => exact h
  | 6 => exact h
  | j + 7 => simp at h
theorem self_r (cs : List Value) : ∀ (j : Nat) (v : Value), cs[j]? = some v → cs.toArray.toList[0 + j]? = some v := by
  intro j v h
  rw [Nat.zero_add]
  exact h
set_option maxHeartbeats 4000000 in
set_option maxRecDepth 100000 in
open Go.Proofs.Ytpkckkmgnlhhcaa.Mid in
theorem mark_gone (k : Nat) (pa pl pe o : Int) (A1 : Option Addr) (c1 : Nat) (l1 : List S38) (nx md pr : Int) (A5 : Option Addr) (c5 : Nat) (l5 : List Int) (A6 : Option Addr) (c6 : Nat) (l6 : List S58) (st : Int) (w : World)
    (hr1 : Kd.C k38 w A1 l1.length l1) (hc1 : l1.length ≤ c1) (hr5 : Kd.C (Kd.int .u32) w A5 l5.length l5) (hc5 : l5.length ≤ c5) (hr6 : Kd.C k58 w A6 l6.length l6) (hc6 : l6.length ≤ c6) (h1 : route_Has.f k o l1 nx md pr l5 l6 4294901767 = some true) :
    Calls Try.prog 30 #[.agg #[.int .u32 pa, .int .i64 pl, .int .i64 pe, .int .i64 o, .slice A1 l1.length c1, .int .u32 nx, .int .i64 md, .int .i64 pr, .slice A5 l5.length c5, .slice A6 l6.length c6, .int .i64 st], .int .i64 2] w fun e w' => e = .returned (.tuple #[.agg #[.int .u32 0, .int .i64 0, .int .i64 0, .int .i64 0, .slice none 0 0, .int .u32 0, .int .i64 0, .int .i64 0, .slice none 0 0, .slice none 0 0, .int .i64 0], .bool false]) ∧ Below w.heap.size w w' := by
  have HR1 := Aside0.mk hr1
  have HR5 := Aside0.mk hr5
  have HR6 := Aside0.mk hr6
  have HC := Aside0.mk (And.intro hc1 (And.intro hc5 hc6))
  have hu46 := Try.underlying46
  have hu48 := Try.underlying48
  have HB := Aside0.mk (Below.refl w.heap.size w)
  clear hr1 hc1 hr5 hc5 hr6 hc6
  have HH1 := Aside0.mk h1
  clear h1
  go_enter Try.func30, Try.ntmps30
  go_wp2_with (first | ((with_reducible refine gate_dst (N := 2) rfl ?_); refine box_event ?hg (N := 2) ?hd (cs := #[.int .u32 pa, .int .i64 pl, .int .i64 pe, .int .i64 o, .slice A1 l1.length c1, .int .u32 nx, .int .i64 md, .int .i64 pr, .slice A5 l5.length c5, .slice A6 l6.length c6, .int .i64 st]) (t := 48) ?hr ?_; (case hd => rfl); (case hg => rfl); (case hr => first | (go_simp; done) | (go_simp; rfl)); intro g1 hg w1 hbox hb; have HB1 := Aside0.mk (below_step HB.out hb); have BK11 := Aside0.mk hbox; have GE1 := Aside0.mk (show w.heap.size ≤ g1 from by rw [hg]; exact Nat.le_refl _); clear hbox hb hg) | ((with_reducible refine gate_dst (N := 4) rfl ?_); refine box_event ?hg (N := 4) ?hd (cs := #[.int .u32 0, .int .i64 0, .int .i64 0, .int .i64 0, .slice none 0 0, .int .u32 0, .int .i64 0, .int .i64 0, .slice none 0 0, .slice none 0 0, .int .i64 0]) (t := 48) ?hr ?_; (case hd => rfl); (case hg => rfl); (case hr => first | (go_simp; done) | (go_simp; rfl)); intro g2 hg w2 hbox hb; have HB2 := Aside0.mk (below_step HB1.out hb); have BK1 := Aside0.mk (show w2.heap[g1]? = _ from (hb.block _ (blk_lt BK11.out)).trans BK11.out); have BK2 := Aside0.mk hbox; have GE2 := Aside0.mk (show g1 < g2 from by rw [hg]; exact blk_lt BK11.out); clear BK11; clear hbox hb hg) | ((with_reducible refine gate_dst (N := 10) rfl ?_); (try (refine gate_guard (by rfl) ?_; dsimp only)); refine load_blk rfl 46 (.tmp 9) rfl (g := g1) (off := 3) [.int .i64 o, .slice A1 l1.length c1, .int .u32 nx, .int .i64 md, .int .i64 pr, .slice A5 l5.length c5, .slice A6 l6.length c6] _ rfl BK1.out (seven_r pa pl pe o A1 l1.length c1 nx md pr A5 l5.length c5 A6 l6.length c6 st) Try.underlying46 rfl (by kernel_rfl) ?_) | (go_at_call 35; refine (route_Has.calls k o A1 c1 l1 nx md pr A5 c5 l5 A6 c6 l6 4294901767 true _ (Kd.C_below HR1.out HB2.out) HC.out.1 (Kd.C_below HR5.out HB2.out) HC.out.2.1 (Kd.C_below HR6.out HB2.out) HC.out.2.2 HH1.out).mono ?_; rintro e w3 ⟨rfl, hb⟩; have BK1H := Aside0.mk ((hb.block _ (blk_lt BK1.out)).trans BK1.out); have BK2H := Aside0.mk ((hb.block _ (blk_lt BK2.out)).trans BK2.out); have HBH := Aside0.mk (below_step HB2.out hb); clear hb) | ((with_reducible refine gate_store (t := 48) (p := 4) rfl ?_); refine store_new rfl 48 (.tmp 4) (.tmp 13) rfl [.int .u32 0, .int .i64 0, .int .i64 0, .int .i64 0, .slice none 0 0, .int .u32 0, .int .i64 0, .int .i64 0, .slice none 0 0, .slice none 0 0, .int .i64 0] (by rfl) (by rfl) BK2H.out (by rfl) (by kernel_rfl) (by intro v hv; simp only [List.mem_cons, List.not_mem_nil, or_false] at hv; rcases hv with rfl | rfl | rfl | rfl | rfl | rfl | rfl | rfl | rfl | rfl | rfl <;> rfl) ?_; intro w3 hx3 hg3 hs3; have BKF := Aside0.mk hx3; have HBF := Aside0.mk (HBH.out.grown hg3 HBH.out.size (fun k e => by injection e with e; have := GE1.out; have := GE2.out; omega)); clear hx3 hg3 hs3))
  refine bodyPost_ret (results_ct rfl _ _ g2 48 #[.int .u32 0, .int .i64 0, .int .i64 0, .int .i64 0, .slice none 0 0, .int .u32 0, .int .i64 0, .int .i64 0, .slice none 0 0, .slice none 0 0, .int .i64 0] (0, 0) _ rfl BKF.out Try.underlying48 rfl (by kernel_rfl)) rfl ?_
  exact ⟨rfl, HBF.out⟩
theorem ints_grown {B : Nat} {w w1 : World} {kd : IntKind} {e : TypeId} {A : Option Addr} {n g : Nat} (h : Ints B w kd e A n) (hg : w.grownBy w1 (some g)) (hlt : g < B) : Ints B w1 kd e A n := fun hn => by
  obtain ⟨gg, cells, hA, hB, hgg, hc⟩ := h hn
  exact ⟨gg, cells, hA, hB, (hg.block gg (blk_lt hgg) (by intro e; injection e with e; omega)).trans hgg, hc⟩
set_option maxHeartbeats 4000000 in
set_option maxRecDepth 100000 in
open Go.Proofs.Ytpkckkmgnlhhcaa.Mid in
theorem mark_plain (k : Nat) (pa pl pe o : Int) (A1 : Option Addr) (c1 : Nat) (l1 : List S38) (nx md pr : Int) (A5 : Option Addr) (c5 : Nat) (l5 : List Int) (A6 : Option Addr) (c6 : Nat) (l6 : List S58) (st : Int) (sv : Int) (r2 : List S38) (w : World)
    (hr1 : Kd.C k38 w A1 l1.length l1) (hc1 : l1.length ≤ c1) (hr5 : Kd.C (Kd.int .u32) w A5 l5.length l5) (hc5 : l5.length ≤ c5) (hr6 : Kd.C k58 w A6 l6.length l6) (hc6 : l6.length ≤ c6) (hp : path_Own.f k l1 = some r2) (h5 : slices_Clone_uint32_uint32.f l5 = some l5) (h6 : l6.length < 4000) (hd : ∀ r ∈ l6, bytes_Clone.f r.f2 = some r.f2) (hsv : sv ≠ 2) :
    Calls Try.prog 30 #[.agg #[.int .u32 pa, .int .i64 pl, .int .i64 pe, .int .i64 o, .slice A1 l1.length c1, .int .u32 nx, .int .i64 md, .int .i64 pr, .slice A5 l5.length c5, .slice A6 l6.length c6, .int .i64 st], .int .i64 sv] w fun e w' => ∃ B1 d1 B5 d5 B6, e = .returned (.tuple #[.agg #[.int .u32 pa, .int .i64 pl, .int .i64 pe, .int .i64 o, .slice B1 r2.length d1, .int .u32 nx, .int .i64 md, .int .i64 pr, .slice B5 (l5).length d5, .slice B6 l6.length l6.length, .int .i64 sv], .bool true]) ∧ r2.length ≤ d1 ∧ (l5).length ≤ d5 ∧ Kd.C k38 w' B1 r2.length r2 ∧ Kd.C (Kd.int .u32) w' B5 (l5).length (l5) ∧ Ints w.heap.size w' .u32 40 B5 (l5).length ∧ Kd.C k58 w' B6 l6.length l6 ∧ Below w.heap.size w w' := by
  have HR1 := Aside0.mk hr1
  have HR5 := Aside0.mk hr5
  have HR6 := Aside0.mk hr6
  have HC := Aside0.mk (And.intro hc1 (And.intro hc5 hc6))
  have hu46 := Try.underlying46
  have hu48 := Try.underlying48
  have HB := Aside0.mk (Below.refl w.heap.size w)
  clear hr1 hc1 hr5 hc5 hr6 hc6
  have HP := Aside0.mk hp
  have H5 := Aside0.mk h5
  have H6 := Aside0.mk h6
  have HD := Aside0.mk hd
  clear hp h5 h6 hd
  have c0 : (sv == 2) = false := beq_eq_false_iff_ne.mpr hsv
  clear hsv
  go_enter Try.func30, Try.ntmps30
  go_wp2_with (first | ((with_reducible refine gate_dst (N := 2) rfl ?_); refine box_event ?hg (N := 2) ?hd (cs := #[.int .u32 pa, .int .i64 pl, .int .i64 pe, .int .i64 o, .slice A1 l1.length c1, .int .u32 nx, .int .i64 md, .int .i64 pr, .slice A5 l5.length c5, .slice A6 l6.length c6, .int .i64 st]) (t := 48) ?hr ?_; (case hd => rfl); (case hg => rfl); (case hr => first | (go_simp; done) | (go_simp; rfl)); intro g1 hg w1 hbox hb; have HB1 := Aside0.mk (below_step HB.out hb); have BK11 := Aside0.mk hbox; have GE1 := Aside0.mk (show w.heap.size ≤ g1 from by rw [hg]; exact Nat.le_refl _); clear hbox hb hg) | ((with_reducible refine gate_dst (N := 4) rfl ?_); refine box_event ?hg (N := 4) ?hd (cs := #[.int .u32 0, .int .i64 0, .int .i64 0, .int .i64 0, .slice none 0 0, .int .u32 0, .int .i64 0, .int .i64 0, .slice none 0 0, .slice none 0 0, .int .i64 0]) (t := 48) ?hr ?_; (case hd => rfl); (case hg => rfl); (case hr => first | (go_simp; done) | (go_simp; rfl)); intro g2 hg w2 hbox hb; have HB2 := Aside0.mk (below_step HB1.out hb); have BK1 := Aside0.mk (show w2.heap[g1]? = _ from (hb.block _ (blk_lt BK11.out)).trans BK11.out); have BK2 := Aside0.mk hbox; have GE2 := Aside0.mk (show g1 < g2 from by rw [hg]; exact blk_lt BK11.out); clear BK11; clear hbox hb hg) | ((with_reducible refine gate_dst (N := 14) rfl ?_); refine load_blk rfl 48 (.tmp 2) rfl (g := g1) (off := 0) [.int .u32 pa, .int .i64 pl, .int .i64 pe, .int .i64 o, .slice A1 l1.length c1, .int .u32 nx, .int .i64 md, .int .i64 pr, .slice A5 l5.length c5, .slice A6 l6.length c6, .int .i64 st] _ rfl BK1.out (self_r _) Try.underlying48 rfl (by kernel_rfl) ?_) | (go_at_call 37; refine (route_own k pa pl pe o A1 c1 l1 nx md pr A5 c5 l5 A6 c6 l6 st r2 _ (Kd.C_below HR1.out HB2.out) HC.out.1 (Kd.C_below HR5.out HB2.out) HC.out.2.1 (Kd.C_below HR6.out HB2.out) HC.out.2.2 HP.out H5.out H6.out HD.out).mono ?_; rintro e w4 ⟨B1, d1, B5, B6, rfl, hl1, hq1, hq5, hqi, hq6, hb⟩; have HL1 := Aside0.mk hl1; have HGT := Aside0.mk (show g2 < _ from blk_lt BK2.out); have HQ1 := Aside0.mk (Kd.F_mono (ok' := fun k => g2 < k) hq1 (fun k hk => Nat.lt_of_lt_of_le HGT.out hk)); have HQ5 := Aside0.mk (Kd.F_mono (ok' := fun k => g2 < k) hq5 (fun k hk => Nat.lt_of_lt_of_le HGT.out hk)); have HQ6 := Aside0.mk (Kd.F_mono (ok' := fun k => g2 < k) hq6 (fun k hk => Nat.lt_of_lt_of_le HGT.out hk)); have HQI := Aside0.mk (Ints.lower (B' := g2 + 1) hqi HGT.out); have BK1O := Aside0.mk ((hb.block _ (blk_lt BK1.out)).trans BK1.out); have BK2O := Aside0.mk ((hb.block _ (blk_lt BK2.out)).trans BK2.out); have HBO := Aside0.mk (below_step HB2.out hb); clear hl1 hq1 hq5 hqi hq6 hb) | ((with_reducible refine gate_store (t := 48) (p := 2) rfl ?_); refine store_new rfl 48 (.tmp 2) (.tmp 15) rfl [.int .u32 pa, .int .i64 pl, .int .i64 pe, .int .i64 o, .slice B1 r2.length d1, .int .u32 nx, .int .i64 md, .int .i64 pr, .slice B5 l5.length l5.length, .slice B6 l6.length l6.length, .int .i64 st] (by rfl) (by rfl) BK1O.out (by rfl) (by kernel_rfl) (by intro v hv; simp only [List.mem_cons, List.not_mem_nil, or_false] at hv; rcases hv with rfl | rfl | rfl | rfl | rfl | rfl | rfl | rfl | rfl | rfl | rfl <;> rfl) ?_; intro w5 hx hg hs; have hz10 : w5.cell? ⟨g1, 10, none⟩ = some (.int .i64 st) := (blk_cell hx 10).trans rfl; have hf10 : w5.frozen? ⟨g1, 10, none⟩ = false := blk_frozen hx 10; have BK1S := Aside0.mk (show (w5.setCell ⟨g1, 10, none⟩ (.int .i64 sv)).heap[g1]? = some (.cells #[.int .u32 pa, .int .i64 pl, .int .i64 pe, .int .i64 o, .slice B1 r2.length d1, .int .u32 nx, .int .i64 md, .int .i64 pr, .slice B5 l5.length l5.length, .slice B6 l6.length l6.length, .int .i64 sv] 48 (0, 0)) from (blk_set hx 10 (.int .i64 sv)).trans rfl); have BK2S := Aside0.mk (show (w5.setCell ⟨g1, 10, none⟩ (.int .i64 sv)).heap[g2]? = some (.cells #[.int .u32 0, .int .i64 0, .int .i64 0, .int .i64 0, .slice none 0 0, .int .u32 0, .int .i64 0, .int .i64 0, .slice none 0 0, .slice none 0 0, .int .i64 0] 48 (0, 0)) from (Below.heap_setCell _ _ _ _ (show g2 ≠ g1 from (by have := GE1.out; have := GE2.out; omega))).trans ((hg.block g2 (blk_lt BK2O.out) (fun e => by injection e with e; have := GE2.out; omega)).trans BK2O.out)); have HBS := Aside0.mk (show Below w.heap.size w (w5.setCell ⟨g1, 10, none⟩ (.int .i64 sv)) from Below.setCell (HBO.out.grown hg HBO.out.size (fun k e => by injection e with e; have := GE1.out; omega)) GE1.out _); have HQ1S := Aside0.mk (Kd.F_far (p := ⟨g1, 10, none⟩) (Kd.F_grown HQ1.out hg (fun k hk e => by injection e with e; have := GE2.out; omega)) (fun k hk => by have := GE2.out; show k ≠ g1; omega) (.int .i64 sv)); have HQ5S := Aside0.mk (Kd.F_far (p := ⟨g1, 10, none⟩) (Kd.F_grown HQ5.out hg (fun k hk e => by injection e with e; have := GE2.out; omega)) (fun k hk => by have := GE2.out; show k ≠ g1; omega) (.int .i64 sv)); have HQ6S := Aside0.mk (Kd.F_far (p := ⟨g1, 10, none⟩) (Kd.F_grown HQ6.out hg (fun k hk e => by injection e with e; have := GE2.out; omega)) (fun k hk => by have := GE2.out; show k ≠ g1; omega) (.int .i64 sv)); have HQIS := Aside0.mk (Ints.far (p := ⟨g1, 10, none⟩) (ints_grown HQI.out hg (by have := GE2.out; omega)) (.int .i64 sv) (by have := GE2.out; show g1 < g2 + 1; omega)); clear hx hg hs) | ((with_reducible refine gate_dst (N := 40) rfl ?_); refine load_blk rfl 48 (.tmp 2) rfl (g := g1) (off := 0) [.int .u32 pa, .int .i64 pl, .int .i64 pe, .int .i64 o, .slice B1 r2.length d1, .int .u32 nx, .int .i64 md, .int .i64 pr, .slice B5 l5.length l5.length, .slice B6 l6.length l6.length, .int .i64 sv] _ rfl BK1S.out (self_r _) Try.underlying48 rfl (by kernel_rfl) ?_) | ((with_reducible refine gate_store (t := 48) (p := 4) rfl ?_); refine store_new rfl 48 (.tmp 4) (.tmp 40) rfl [.int .u32 pa, .int .i64 pl, .int .i64 pe, .int .i64 o, .slice B1 r2.length d1, .int .u32 nx, .int .i64 md, .int .i64 pr, .slice B5 l5.length l5.length, .slice B6 l6.length l6.length, .int .i64 sv] (by rfl) (by rfl) BK2S.out (by rfl) (by kernel_rfl) (by intro v hv; simp only [List.mem_cons, List.not_mem_nil, or_false] at hv; rcases hv with rfl | rfl | rfl | rfl | rfl | rfl | rfl | rfl | rfl | rfl | rfl <;> rfl) ?_; intro w8 hx hg hs; have BKF := Aside0.mk hx; have HBF := Aside0.mk (HBS.out.grown hg HBS.out.size (fun k e => by injection e with e; have := GE1.out; have := GE2.out; omega)); have HQ1F := Aside0.mk (Kd.F_grown HQ1S.out hg (fun k hk e => by injection e with e; omega)); have HQ5F := Aside0.mk (Kd.F_grown HQ5S.out hg (fun k hk e => by injection e with e; omega)); have HQ6F := Aside0.mk (Kd.F_grown HQ6S.out hg (fun k hk e => by injection e with e; omega)); have HQIF := Aside0.mk (ints_grown HQIS.out hg (by omega)); clear hx hg hs))
  refine bodyPost_ret (results_ct rfl _ _ g2 48 #[.int .u32 pa, .int .i64 pl, .int .i64 pe, .int .i64 o, .slice B1 r2.length d1, .int .u32 nx, .int .i64 md, .int .i64 pr, .slice B5 l5.length l5.length, .slice B6 l6.length l6.length, .int .i64 sv] (0, 0) _ rfl BKF.out Try.underlying48 rfl (by kernel_rfl)) rfl ?_
  exact ⟨B1, d1, B5, _, B6, rfl, HL1.out, Nat.le_refl _, Kd.F_now HQ1F.out, Kd.F_now HQ5F.out, HQIF.out.lower (by have := GE1.out; have := GE2.out; omega), Kd.F_now HQ6F.out, HBF.out⟩
section
variable {P : Program} {ops : Array Oper} {rest : List Oper} {op : Oper} {a : Act} {Q : Exit → Act → World → Prop}
theorem append_full (w : World) (hgd : op.guard = none) (s x : Operand) (t e : TypeId)
    (ho : op.op = .call { callee := .builtin .append, args := #[s, x], argTypes := #[t, t] })
    (ht : P.underlying t = some (.slice e)) (hinfo : (P.info? e).map (fun i => (i.zero, i.size, i.bytes)) = some (some (.int .u32 0), 1, 4))
    (A : Option Addr) (xs : List Int) (y : Int) (hs : a.eval s = .slice A xs.length xs.length) (hx : a.eval x = .slice (some ⟨w.heap.size, 0, none⟩) 1 1)
    (hC : Kd.C (Kd.int .u32) w A xs.length xs) (hA : A = none → xs.length = 0) (hl : xs.length < 4000)
    (hK : ∀ v w1, Kd.R (Kd.int .u32) e w1 w.heap.size (fun _ => True) v (xs ++ [y]) → Below w.heap.size w w1 → wpList P ops Q rest (a.put op.dst v) w1) :
    wpList P ops Q (op :: rest) a (w.alloc (.cells #[.int .u32 y] e)) := by
  obtain ⟨i, hi, he⟩ := Option.map_eq_some_iff.mp hinfo
  simp only [Prod.mk.injEq] at he
  obtain ⟨hz, hsz, hby⟩ := he
  refine wpList_append_grows _ hgd s x t ho e i (.int .u32 0) 1 4 ht hi hz hsz hby rfl (by decide) A xs.length xs.length (encs (Value.int .u32) xs) hs (fun h => ⟨hA h, hA h⟩) (by simp [encs]) ?olds ⟨w.heap.size, 0, none⟩ 1 1 [.int .u32 y] hx rfl ?news (by simp [Value.oneCell']) (by omega) (by unfold maxLen; omega) (by omega) ?_
  case olds =>
    intro b hb j u hu
    have hj : j < xs.length := by
      rcases Nat.lt_or_ge j xs.length with h | h
      · exact h
      · rw [List.getElem?_eq_none (by simp [encs]; exact h)] at hu
        cases hu
    obtain ⟨ad, had, hc⟩ := Kd.at_int hC (j : Int) (by omega) (by omega)
    rw [hb] at had
    injection had with had
    subst had
    rw [Int.toNat_natCast] at hc
    have hu2 : u = .int .u32 (rd xs (j : Int)) := by
      simp only [encs, List.getElem?_map, List.getElem?_eq_getElem hj, Option.map_some, Option.some.injEq] at hu
      rw [← hu]
      simp [rd, List.getD_eq_getElem?_getD, List.getElem?_eq_getElem hj]
    rw [hu2]
    exact (below_alloc (Below.refl w.heap.size w) _).cell (World.block_lt_of_cell? _ _ hc) |>.trans hc
  case news =>
    intro j u hu
    match j with
    | 0 =>
      simp only [List.getElem?_cons_zero, Option.some.injEq] at hu
      subst hu
      have e0 : (⟨w.heap.size, 0, none⟩ : Addr).add 0 = ⟨w.heap.size, 0, none⟩ := by simp [Addr.add]
      rw [e0]
      exact (blk_cell (heap_alloc_new w _) 0).trans rfl
    | j + 1 => simp at hu
  intro v w1 hown hg
  refine hK v w1 ?_ ?_
  · refine Kd.R_of_own ?_ (fun _ _ => trivial)
    rw [encs_append]
    have h2 := own_weaken (base' := w.heap.size) hown (by simp)
    rw [show (xs ++ [y]).length = xs.length + 1 from by simp]
    exact h2
  · exact (below_alloc (Below.refl w.heap.size w) _).trans ((Below.refl _ _).grown hg (Nat.le_refl _) (fun k e => by cases e) |>.mono (by simp))
end
set_option maxHeartbeats 4000000 in
set_option maxRecDepth 100000 in
open Go.Proofs.Ytpkckkmgnlhhcaa.Mid in
theorem mark_has (k : Nat) (pa pl pe o : Int) (A1 : Option Addr) (c1 : Nat) (l1 : List S38) (nx md pr : Int) (A5 : Option Addr) (c5 : Nat) (l5 : List Int) (A6 : Option Addr) (c6 : Nat) (l6 : List S58) (st : Int) (r2 : List S38) (w : World)
    (hr1 : Kd.C k38 w A1 l1.length l1) (hc1 : l1.length ≤ c1) (hr5 : Kd.C (Kd.int .u32) w A5 l5.length l5) (hc5 : l5.length ≤ c5) (hr6 : Kd.C k58 w A6 l6.length l6) (hc6 : l6.length ≤ c6) (hp : path_Own.f k l1 = some r2) (h5 : slices_Clone_uint32_uint32.f l5 = some l5) (h6 : l6.length < 4000) (hd : ∀ r ∈ l6, bytes_Clone.f r.f2 = some r.f2) (h1 : route_Has.f k o l1 nx md pr l5 l6 4294901767 = some false) (h2 : route_Has.f k o r2 nx md pr l5 l6 4294901766 = some true) :
    Calls Try.prog 30 #[.agg #[.int .u32 pa, .int .i64 pl, .int .i64 pe, .int .i64 o, .slice A1 l1.length c1, .int .u32 nx, .int .i64 md, .int .i64 pr, .slice A5 l5.length c5, .slice A6 l6.length c6, .int .i64 st], .int .i64 2] w fun e w' => ∃ B1 d1 B5 d5 B6, e = .returned (.tuple #[.agg #[.int .u32 pa, .int .i64 pl, .int .i64 pe, .int .i64 o, .slice B1 r2.length d1, .int .u32 nx, .int .i64 md, .int .i64 pr, .slice B5 (l5).length d5, .slice B6 l6.length l6.length, .int .i64 2], .bool true]) ∧ r2.length ≤ d1 ∧ (l5).length ≤ d5 ∧ Kd.C k38 w' B1 r2.length r2 ∧ Kd.C (Kd.int .u32) w' B5 (l5).length (l5) ∧ Ints w.heap.size w' .u32 40 B5 (l5).length ∧ Kd.C k58 w' B6 l6.length l6 ∧ Below w.heap.size w w' := by
  have HR1 := Aside0.mk hr1
  have HR5 := Aside0.mk hr5
  have HR6 := Aside0.mk hr6
  have HC := Aside0.mk (And.intro hc1 (And.intro hc5 hc6))
  have hu46 := Try.underlying46
  have hu48 := Try.underlying48
  have HB := Aside0.mk (Below.refl w.heap.size w)
  clear hr1 hc1 hr5 hc5 hr6 hc6
  have HP := Aside0.mk hp
  have H5 := Aside0.mk h5
  have H6 := Aside0.mk h6
  have HD := Aside0.mk hd
  clear hp h5 h6 hd
  have HH1 := Aside0.mk h1
  have HH2 := Aside0.mk h2
  clear h1 h2
  go_enter Try.func30, Try.ntmps30
  go_wp2_with (first | ((with_reducible refine gate_dst (N := 2) rfl ?_); refine box_event ?hg (N := 2) ?hd (cs := #[.int .u32 pa, .int .i64 pl, .int .i64 pe, .int .i64 o, .slice A1 l1.length c1, .int .u32 nx, .int .i64 md, .int .i64 pr, .slice A5 l5.length c5, .slice A6 l6.length c6, .int .i64 st]) (t := 48) ?hr ?_; (case hd => rfl); (case hg => rfl); (case hr => first | (go_simp; done) | (go_simp; rfl)); intro g1 hg w1 hbox hb; have HB1 := Aside0.mk (below_step HB.out hb); have BK11 := Aside0.mk hbox; have GE1 := Aside0.mk (show w.heap.size ≤ g1 from by rw [hg]; exact Nat.le_refl _); clear hbox hb hg) | ((with_reducible refine gate_dst (N := 4) rfl ?_); refine box_event ?hg (N := 4) ?hd (cs := #[.int .u32 0, .int .i64 0, .int .i64 0, .int .i64 0, .slice none 0 0, .int .u32 0, .int .i64 0, .int .i64 0, .slice none 0 0, .slice none 0 0, .int .i64 0]) (t := 48) ?hr ?_; (case hd => rfl); (case hg => rfl); (case hr => first | (go_simp; done) | (go_simp; rfl)); intro g2 hg w2 hbox hb; have HB2 := Aside0.mk (below_step HB1.out hb); have BK1 := Aside0.mk (show w2.heap[g1]? = _ from (hb.block _ (blk_lt BK11.out)).trans BK11.out); have BK2 := Aside0.mk hbox; have GE2 := Aside0.mk (show g1 < g2 from by rw [hg]; exact blk_lt BK11.out); clear BK11; clear hbox hb hg) | ((with_reducible refine gate_dst (N := 10) rfl ?_); (try (refine gate_guard (by rfl) ?_; dsimp only)); refine load_blk rfl 46 (.tmp 9) rfl (g := g1) (off := 3) [.int .i64 o, .slice A1 l1.length c1, .int .u32 nx, .int .i64 md, .int .i64 pr, .slice A5 l5.length c5, .slice A6 l6.length c6] _ rfl BK1.out (seven_r pa pl pe o A1 l1.length c1 nx md pr A5 l5.length c5 A6 l6.length c6 st) Try.underlying46 rfl (by kernel_rfl) ?_) | (go_at_call 35; refine (route_Has.calls k o A1 c1 l1 nx md pr A5 c5 l5 A6 c6 l6 4294901767 false _ (Kd.C_below HR1.out HB2.out) HC.out.1 (Kd.C_below HR5.out HB2.out) HC.out.2.1 (Kd.C_below HR6.out HB2.out) HC.out.2.2 HH1.out).mono ?_; rintro e w3 ⟨rfl, hb⟩; have BK1H := Aside0.mk ((hb.block _ (blk_lt BK1.out)).trans BK1.out); have BK2H := Aside0.mk ((hb.block _ (blk_lt BK2.out)).trans BK2.out); have HBH := Aside0.mk (below_step HB2.out hb); clear hb) | ((with_reducible refine gate_dst (N := 14) rfl ?_); refine load_blk rfl 48 (.tmp 2) rfl (g := g1) (off := 0) [.int .u32 pa, .int .i64 pl, .int .i64 pe, .int .i64 o, .slice A1 l1.length c1, .int .u32 nx, .int .i64 md, .int .i64 pr, .slice A5 l5.length c5, .slice A6 l6.length c6, .int .i64 st] _ rfl BK1H.out (self_r _) Try.underlying48 rfl (by kernel_rfl) ?_) | (go_at_call 37; refine (route_own k pa pl pe o A1 c1 l1 nx md pr A5 c5 l5 A6 c6 l6 st r2 _ (Kd.C_below HR1.out HBH.out) HC.out.1 (Kd.C_below HR5.out HBH.out) HC.out.2.1 (Kd.C_below HR6.out HBH.out) HC.out.2.2 HP.out H5.out H6.out HD.out).mono ?_; rintro e w4 ⟨B1, d1, B5, B6, rfl, hl1, hq1, hq5, hqi, hq6, hb⟩; have HL1 := Aside0.mk hl1; have HGT := Aside0.mk (show g2 < _ from blk_lt BK2H.out); have HQ1 := Aside0.mk (Kd.F_mono (ok' := fun k => g2 < k) hq1 (fun k hk => Nat.lt_of_lt_of_le HGT.out hk)); have HQ5 := Aside0.mk (Kd.F_mono (ok' := fun k => g2 < k) hq5 (fun k hk => Nat.lt_of_lt_of_le HGT.out hk)); have HQ6 := Aside0.mk (Kd.F_mono (ok' := fun k => g2 < k) hq6 (fun k hk => Nat.lt_of_lt_of_le HGT.out hk)); have HQI := Aside0.mk (Ints.lower (B' := g2 + 1) hqi HGT.out); have BK1O := Aside0.mk ((hb.block _ (blk_lt BK1H.out)).trans BK1H.out); have BK2O := Aside0.mk ((hb.block _ (blk_lt BK2H.out)).trans BK2H.out); have HBO := Aside0.mk (below_step HBH.out hb); clear hl1 hq1 hq5 hqi hq6 hb) | ((with_reducible refine gate_store (t := 48) (p := 2) rfl ?_); refine store_new rfl 48 (.tmp 2) (.tmp 15) rfl [.int .u32 pa, .int .i64 pl, .int .i64 pe, .int .i64 o, .slice B1 r2.length d1, .int .u32 nx, .int .i64 md, .int .i64 pr, .slice B5 l5.length l5.length, .slice B6 l6.length l6.length, .int .i64 st] (by rfl) (by rfl) BK1O.out (by rfl) (by kernel_rfl) (by intro v hv; simp only [List.mem_cons, List.not_mem_nil, or_false] at hv; rcases hv with rfl | rfl | rfl | rfl | rfl | rfl | rfl | rfl | rfl | rfl | rfl <;> rfl) ?_; intro w5 hx hg hs; have hz10 : w5.cell? ⟨g1, 10, none⟩ = some (.int .i64 st) := (blk_cell hx 10).trans rfl; have hf10 : w5.frozen? ⟨g1, 10, none⟩ = false := blk_frozen hx 10; have BK1S := Aside0.mk (show (w5.setCell ⟨g1, 10, none⟩ (.int .i64 2)).heap[g1]? = some (.cells #[.int .u32 pa, .int .i64 pl, .int .i64 pe, .int .i64 o, .slice B1 r2.length d1, .int .u32 nx, .int .i64 md, .int .i64 pr, .slice B5 l5.length l5.length, .slice B6 l6.length l6.length, .int .i64 2] 48 (0, 0)) from (blk_set hx 10 (.int .i64 2)).trans rfl); have BK2S := Aside0.mk (show (w5.setCell ⟨g1, 10, none⟩ (.int .i64 2)).heap[g2]? = some (.cells #[.int .u32 0, .int .i64 0, .int .i64 0, .int .i64 0, .slice none 0 0, .int .u32 0, .int .i64 0, .int .i64 0, .slice none 0 0, .slice none 0 0, .int .i64 0] 48 (0, 0)) from (Below.heap_setCell _ _ _ _ (show g2 ≠ g1 from (by have := GE1.out; have := GE2.out; omega))).trans ((hg.block g2 (blk_lt BK2O.out) (fun e => by injection e with e; have := GE2.out; omega)).trans BK2O.out)); have HBS := Aside0.mk (show Below w.heap.size w (w5.setCell ⟨g1, 10, none⟩ (.int .i64 2)) from Below.setCell (HBO.out.grown hg HBO.out.size (fun k e => by injection e with e; have := GE1.out; omega)) GE1.out _); have HQ1S := Aside0.mk (Kd.F_far (p := ⟨g1, 10, none⟩) (Kd.F_grown HQ1.out hg (fun k hk e => by injection e with e; have := GE2.out; omega)) (fun k hk => by have := GE2.out; show k ≠ g1; omega) (.int .i64 2)); have HQ5S := Aside0.mk (Kd.F_far (p := ⟨g1, 10, none⟩) (Kd.F_grown HQ5.out hg (fun k hk e => by injection e with e; have := GE2.out; omega)) (fun k hk => by have := GE2.out; show k ≠ g1; omega) (.int .i64 2)); have HQ6S := Aside0.mk (Kd.F_far (p := ⟨g1, 10, none⟩) (Kd.F_grown HQ6.out hg (fun k hk e => by injection e with e; have := GE2.out; omega)) (fun k hk => by have := GE2.out; show k ≠ g1; omega) (.int .i64 2)); have HQIS := Aside0.mk (Ints.far (p := ⟨g1, 10, none⟩) (ints_grown HQI.out hg (by have := GE2.out; omega)) (.int .i64 2) (by have := GE2.out; show g1 < g2 + 1; omega)); clear hx hg hs) | ((with_reducible refine gate_dst (N := 22) rfl ?_); (try (refine gate_guard (by rfl) ?_; dsimp only)); refine load_blk rfl 46 (.tmp 21) rfl (g := g1) (off := 3) [.int .i64 o, .slice B1 r2.length d1, .int .u32 nx, .int .i64 md, .int .i64 pr, .slice B5 l5.length l5.length, .slice B6 l6.length l6.length] _ rfl BK1S.out (seven_r pa pl pe o B1 r2.length d1 nx md pr B5 l5.length l5.length B6 l6.length l6.length 2) Try.underlying46 rfl (by kernel_rfl) ?_) | (go_at_call 35; refine (route_Has.calls k o B1 d1 r2 nx md pr B5 l5.length l5 B6 l6.length l6 4294901766 true _ (Kd.F_now HQ1S.out) HL1.out (Kd.F_now HQ5S.out) (Nat.le_refl _) (Kd.F_now HQ6S.out) (Nat.le_refl _) HH2.out).mono ?_; rintro e w6 ⟨rfl, hb⟩; have BK1T := Aside0.mk ((hb.block _ (blk_lt BK1S.out)).trans BK1S.out); have BK2T := Aside0.mk ((hb.block _ (blk_lt BK2S.out)).trans BK2S.out); have HBT := Aside0.mk (below_step HBS.out hb); have HQ1T := Aside0.mk (Kd.F_below HQ1S.out hb); have HQ5T := Aside0.mk (Kd.F_below HQ5S.out hb); have HQ6T := Aside0.mk (Kd.F_below HQ6S.out hb); have HQIT := Aside0.mk (HQIS.out.below hb); have hz8 : w6.cell? ⟨g1, 8, none⟩ = some (.slice B5 l5.length l5.length) := (blk_cell BK1T.out 8).trans rfl; clear hb) | ((with_reducible refine gate_dst (N := 40) rfl ?_); refine load_blk rfl 48 (.tmp 2) rfl (g := g1) (off := 0) [.int .u32 pa, .int .i64 pl, .int .i64 pe, .int .i64 o, .slice B1 r2.length d1, .int .u32 nx, .int .i64 md, .int .i64 pr, .slice B5 l5.length l5.length, .slice B6 l6.length l6.length, .int .i64 2] _ rfl BK1T.out (self_r _) Try.underlying48 rfl (by kernel_rfl) ?_) | ((with_reducible refine gate_store (t := 48) (p := 4) rfl ?_); refine store_new rfl 48 (.tmp 4) (.tmp 40) rfl [.int .u32 pa, .int .i64 pl, .int .i64 pe, .int .i64 o, .slice B1 r2.length d1, .int .u32 nx, .int .i64 md, .int .i64 pr, .slice B5 l5.length l5.length, .slice B6 l6.length l6.length, .int .i64 2] (by rfl) (by rfl) BK2T.out (by rfl) (by kernel_rfl) (by intro v hv; simp only [List.mem_cons, List.not_mem_nil, or_false] at hv; rcases hv with rfl | rfl | rfl | rfl | rfl | rfl | rfl | rfl | rfl | rfl | rfl <;> rfl) ?_; intro w8 hx hg hs; have BKF := Aside0.mk hx; have HBF := Aside0.mk (HBT.out.grown hg HBT.out.size (fun k e => by injection e with e; have := GE1.out; have := GE2.out; omega)); have HQ1F := Aside0.mk (Kd.F_grown HQ1T.out hg (fun k hk e => by injection e with e; omega)); have HQ5F := Aside0.mk (Kd.F_grown HQ5T.out hg (fun k hk e => by injection e with e; omega)); have HQ6F := Aside0.mk (Kd.F_grown HQ6T.out hg (fun k hk e => by injection e with e; omega)); have HQIF := Aside0.mk (ints_grown HQIT.out hg (by omega)); clear hx hg hs))
  refine bodyPost_ret (results_ct rfl _ _ g2 48 #[.int .u32 pa, .int .i64 pl, .int .i64 pe, .int .i64 o, .slice B1 r2.length d1, .int .u32 nx, .int .i64 md, .int .i64 pr, .slice B5 l5.length l5.length, .slice B6 l6.length l6.length, .int .i64 2] (0, 0) _ rfl BKF.out Try.underlying48 rfl (by kernel_rfl)) rfl ?_
  exact ⟨B1, d1, B5, _, B6, rfl, HL1.out, Nat.le_refl _, Kd.F_now HQ1F.out, Kd.F_now HQ5F.out, HQIF.out.lower (by have := GE1.out; have := GE2.out; omega), Kd.F_now HQ6F.out, HBF.out⟩
set_option maxHeartbeats 4000000 in
set_option maxRecDepth 100000 in
open Go.Proofs.Ytpkckkmgnlhhcaa.Mid in
theorem mark_full (k : Nat) (pa pl pe o : Int) (A1 : Option Addr) (c1 : Nat) (l1 : List S38) (nx md pr : Int) (A5 : Option Addr) (c5 : Nat) (l5 : List Int) (A6 : Option Addr) (c6 : Nat) (l6 : List S58) (st : Int) (r2 : List S38) (w : World)
    (hr1 : Kd.C k38 w A1 l1.length l1) (hc1 : l1.length ≤ c1) (hr5 : Kd.C (Kd.int .u32) w A5 l5.length l5) (hc5 : l5.length ≤ c5) (hr6 : Kd.C k58 w A6 l6.length l6) (hc6 : l6.length ≤ c6) (hp : path_Own.f k l1 = some r2) (h5 : slices_Clone_uint32_uint32.f l5 = some l5) (h6 : l6.length < 4000) (hd : ∀ r ∈ l6, bytes_Clone.f r.f2 = some r.f2) (h1 : route_Has.f k o l1 nx md pr l5 l6 4294901767 = some false) (h2 : route_Has.f k o r2 nx md pr l5 l6 4294901766 = some false) (hn : ¬ l5.length < 32) :
    Calls Try.prog 30 #[.agg #[.int .u32 pa, .int .i64 pl, .int .i64 pe, .int .i64 o, .slice A1 l1.length c1, .int .u32 nx, .int .i64 md, .int .i64 pr, .slice A5 l5.length c5, .slice A6 l6.length c6, .int .i64 st], .int .i64 2] w fun e w' => ∃ B1 d1 B5 d5 B6, e = .returned (.tuple #[.agg #[.int .u32 pa, .int .i64 pl, .int .i64 pe, .int .i64 o, .slice B1 r2.length d1, .int .u32 nx, .int .i64 md, .int .i64 pr, .slice B5 (l5).length d5, .slice B6 l6.length l6.length, .int .i64 2], .bool true]) ∧ r2.length ≤ d1 ∧ (l5).length ≤ d5 ∧ Kd.C k38 w' B1 r2.length r2 ∧ Kd.C (Kd.int .u32) w' B5 (l5).length (l5) ∧ Ints w.heap.size w' .u32 40 B5 (l5).length ∧ Kd.C k58 w' B6 l6.length l6 ∧ Below w.heap.size w w' := by
  have HR1 := Aside0.mk hr1
  have HR5 := Aside0.mk hr5
  have HR6 := Aside0.mk hr6
  have HC := Aside0.mk (And.intro hc1 (And.intro hc5 hc6))
  have hu46 := Try.underlying46
  have hu48 := Try.underlying48
  have HB := Aside0.mk (Below.refl w.heap.size w)
  clear hr1 hc1 hr5 hc5 hr6 hc6
  have HP := Aside0.mk hp
  have H5 := Aside0.mk h5
  have H6 := Aside0.mk h6
  have HD := Aside0.mk hd
  clear hp h5 h6 hd
  have HH1 := Aside0.mk h1
  have HH2 := Aside0.mk h2
  clear h1 h2
  have c1_ : decide ((l5.length : Int) < 32) = false := decide_eq_false (by omega)
  clear hn
  go_enter Try.func30, Try.ntmps30
  go_wp2_with (first | ((with_reducible refine gate_dst (N := 2) rfl ?_); refine box_event ?hg (N := 2) ?hd (cs := #[.int .u32 pa, .int .i64 pl, .int .i64 pe, .int .i64 o, .slice A1 l1.length c1, .int .u32 nx, .int .i64 md, .int .i64 pr, .slice A5 l5.length c5, .slice A6 l6.length c6, .int .i64 st]) (t := 48) ?hr ?_; (case hd => rfl); (case hg => rfl); (case hr => first | (go_simp; done) | (go_simp; rfl)); intro g1 hg w1 hbox hb; have HB1 := Aside0.mk (below_step HB.out hb); have BK11 := Aside0.mk hbox; have GE1 := Aside0.mk (show w.heap.size ≤ g1 from by rw [hg]; exact Nat.le_refl _); clear hbox hb hg) | ((with_reducible refine gate_dst (N := 4) rfl ?_); refine box_event ?hg (N := 4) ?hd (cs := #[.int .u32 0, .int .i64 0, .int .i64 0, .int .i64 0, .slice none 0 0, .int .u32 0, .int .i64 0, .int .i64 0, .slice none 0 0, .slice none 0 0, .int .i64 0]) (t := 48) ?hr ?_; (case hd => rfl); (case hg => rfl); (case hr => first | (go_simp; done) | (go_simp; rfl)); intro g2 hg w2 hbox hb; have HB2 := Aside0.mk (below_step HB1.out hb); have BK1 := Aside0.mk (show w2.heap[g1]? = _ from (hb.block _ (blk_lt BK11.out)).trans BK11.out); have BK2 := Aside0.mk hbox; have GE2 := Aside0.mk (show g1 < g2 from by rw [hg]; exact blk_lt BK11.out); clear BK11; clear hbox hb hg) | ((with_reducible refine gate_dst (N := 10) rfl ?_); (try (refine gate_guard (by rfl) ?_; dsimp only)); refine load_blk rfl 46 (.tmp 9) rfl (g := g1) (off := 3) [.int .i64 o, .slice A1 l1.length c1, .int .u32 nx, .int .i64 md, .int .i64 pr, .slice A5 l5.length c5, .slice A6 l6.length c6] _ rfl BK1.out (seven_r pa pl pe o A1 l1.length c1 nx md pr A5 l5.length c5 A6 l6.length c6 st) Try.underlying46 rfl (by kernel_rfl) ?_) | (go_at_call 35; refine (route_Has.calls k o A1 c1 l1 nx md pr A5 c5 l5 A6 c6 l6 4294901767 false _ (Kd.C_below HR1.out HB2.out) HC.out.1 (Kd.C_below HR5.out HB2.out) HC.out.2.1 (Kd.C_below HR6.out HB2.out) HC.out.2.2 HH1.out).mono ?_; rintro e w3 ⟨rfl, hb⟩; have BK1H := Aside0.mk ((hb.block _ (blk_lt BK1.out)).trans BK1.out); have BK2H := Aside0.mk ((hb.block _ (blk_lt BK2.out)).trans BK2.out); have HBH := Aside0.mk (below_step HB2.out hb); clear hb) | ((with_reducible refine gate_dst (N := 14) rfl ?_); refine load_blk rfl 48 (.tmp 2) rfl (g := g1) (off := 0) [.int .u32 pa, .int .i64 pl, .int .i64 pe, .int .i64 o, .slice A1 l1.length c1, .int .u32 nx, .int .i64 md, .int .i64 pr, .slice A5 l5.length c5, .slice A6 l6.length c6, .int .i64 st] _ rfl BK1H.out (self_r _) Try.underlying48 rfl (by kernel_rfl) ?_) | (go_at_call 37; refine (route_own k pa pl pe o A1 c1 l1 nx md pr A5 c5 l5 A6 c6 l6 st r2 _ (Kd.C_below HR1.out HBH.out) HC.out.1 (Kd.C_below HR5.out HBH.out) HC.out.2.1 (Kd.C_below HR6.out HBH.out) HC.out.2.2 HP.out H5.out H6.out HD.out).mono ?_; rintro e w4 ⟨B1, d1, B5, B6, rfl, hl1, hq1, hq5, hqi, hq6, hb⟩; have HL1 := Aside0.mk hl1; have HGT := Aside0.mk (show g2 < _ from blk_lt BK2H.out); have HQ1 := Aside0.mk (Kd.F_mono (ok' := fun k => g2 < k) hq1 (fun k hk => Nat.lt_of_lt_of_le HGT.out hk)); have HQ5 := Aside0.mk (Kd.F_mono (ok' := fun k => g2 < k) hq5 (fun k hk => Nat.lt_of_lt_of_le HGT.out hk)); have HQ6 := Aside0.mk (Kd.F_mono (ok' := fun k => g2 < k) hq6 (fun k hk => Nat.lt_of_lt_of_le HGT.out hk)); have HQI := Aside0.mk (Ints.lower (B' := g2 + 1) hqi HGT.out); have BK1O := Aside0.mk ((hb.block _ (blk_lt BK1H.out)).trans BK1H.out); have BK2O := Aside0.mk ((hb.block _ (blk_lt BK2H.out)).trans BK2H.out); have HBO := Aside0.mk (below_step HBH.out hb); clear hl1 hq1 hq5 hqi hq6 hb) | ((with_reducible refine gate_store (t := 48) (p := 2) rfl ?_); refine store_new rfl 48 (.tmp 2) (.tmp 15) rfl [.int .u32 pa, .int .i64 pl, .int .i64 pe, .int .i64 o, .slice B1 r2.length d1, .int .u32 nx, .int .i64 md, .int .i64 pr, .slice B5 l5.length l5.length, .slice B6 l6.length l6.length, .int .i64 st] (by rfl) (by rfl) BK1O.out (by rfl) (by kernel_rfl) (by intro v hv; simp only [List.mem_cons, List.not_mem_nil, or_false] at hv; rcases hv with rfl | rfl | rfl | rfl | rfl | rfl | rfl | rfl | rfl | rfl | rfl <;> rfl) ?_; intro w5 hx hg hs; have hz10 : w5.cell? ⟨g1, 10, none⟩ = some (.int .i64 st) := (blk_cell hx 10).trans rfl; have hf10 : w5.frozen? ⟨g1, 10, none⟩ = false := blk_frozen hx 10; have BK1S := Aside0.mk (show (w5.setCell ⟨g1, 10, none⟩ (.int .i64 2)).heap[g1]? = some (.cells #[.int .u32 pa, .int .i64 pl, .int .i64 pe, .int .i64 o, .slice B1 r2.length d1, .int .u32 nx, .int .i64 md, .int .i64 pr, .slice B5 l5.length l5.length, .slice B6 l6.length l6.length, .int .i64 2] 48 (0, 0)) from (blk_set hx 10 (.int .i64 2)).trans rfl); have BK2S := Aside0.mk (show (w5.setCell ⟨g1, 10, none⟩ (.int .i64 2)).heap[g2]? = some (.cells #[.int .u32 0, .int .i64 0, .int .i64 0, .int .i64 0, .slice none 0 0, .int .u32 0, .int .i64 0, .int .i64 0, .slice none 0 0, .slice none 0 0, .int .i64 0] 48 (0, 0)) from (Below.heap_setCell _ _ _ _ (show g2 ≠ g1 from (by have := GE1.out; have := GE2.out; omega))).trans ((hg.block g2 (blk_lt BK2O.out) (fun e => by injection e with e; have := GE2.out; omega)).trans BK2O.out)); have HBS := Aside0.mk (show Below w.heap.size w (w5.setCell ⟨g1, 10, none⟩ (.int .i64 2)) from Below.setCell (HBO.out.grown hg HBO.out.size (fun k e => by injection e with e; have := GE1.out; omega)) GE1.out _); have HQ1S := Aside0.mk (Kd.F_far (p := ⟨g1, 10, none⟩) (Kd.F_grown HQ1.out hg (fun k hk e => by injection e with e; have := GE2.out; omega)) (fun k hk => by have := GE2.out; show k ≠ g1; omega) (.int .i64 2)); have HQ5S := Aside0.mk (Kd.F_far (p := ⟨g1, 10, none⟩) (Kd.F_grown HQ5.out hg (fun k hk e => by injection e with e; have := GE2.out; omega)) (fun k hk => by have := GE2.out; show k ≠ g1; omega) (.int .i64 2)); have HQ6S := Aside0.mk (Kd.F_far (p := ⟨g1, 10, none⟩) (Kd.F_grown HQ6.out hg (fun k hk e => by injection e with e; have := GE2.out; omega)) (fun k hk => by have := GE2.out; show k ≠ g1; omega) (.int .i64 2)); have HQIS := Aside0.mk (Ints.far (p := ⟨g1, 10, none⟩) (ints_grown HQI.out hg (by have := GE2.out; omega)) (.int .i64 2) (by have := GE2.out; show g1 < g2 + 1; omega)); clear hx hg hs) | ((with_reducible refine gate_dst (N := 22) rfl ?_); (try (refine gate_guard (by rfl) ?_; dsimp only)); refine load_blk rfl 46 (.tmp 21) rfl (g := g1) (off := 3) [.int .i64 o, .slice B1 r2.length d1, .int .u32 nx, .int .i64 md, .int .i64 pr, .slice B5 l5.length l5.length, .slice B6 l6.length l6.length] _ rfl BK1S.out (seven_r pa pl pe o B1 r2.length d1 nx md pr B5 l5.length l5.length B6 l6.length l6.length 2) Try.underlying46 rfl (by kernel_rfl) ?_) | (go_at_call 35; refine (route_Has.calls k o B1 d1 r2 nx md pr B5 l5.length l5 B6 l6.length l6 4294901766 false _ (Kd.F_now HQ1S.out) HL1.out (Kd.F_now HQ5S.out) (Nat.le_refl _) (Kd.F_now HQ6S.out) (Nat.le_refl _) HH2.out).mono ?_; rintro e w6 ⟨rfl, hb⟩; have BK1T := Aside0.mk ((hb.block _ (blk_lt BK1S.out)).trans BK1S.out); have BK2T := Aside0.mk ((hb.block _ (blk_lt BK2S.out)).trans BK2S.out); have HBT := Aside0.mk (below_step HBS.out hb); have HQ1T := Aside0.mk (Kd.F_below HQ1S.out hb); have HQ5T := Aside0.mk (Kd.F_below HQ5S.out hb); have HQ6T := Aside0.mk (Kd.F_below HQ6S.out hb); have HQIT := Aside0.mk (HQIS.out.below hb); have hz8 : w6.cell? ⟨g1, 8, none⟩ = some (.slice B5 l5.length l5.length) := (blk_cell BK1T.out 8).trans rfl; clear hb) | ((with_reducible refine gate_dst (N := 40) rfl ?_); refine load_blk rfl 48 (.tmp 2) rfl (g := g1) (off := 0) [.int .u32 pa, .int .i64 pl, .int .i64 pe, .int .i64 o, .slice B1 r2.length d1, .int .u32 nx, .int .i64 md, .int .i64 pr, .slice B5 l5.length l5.length, .slice B6 l6.length l6.length, .int .i64 2] _ rfl BK1T.out (self_r _) Try.underlying48 rfl (by kernel_rfl) ?_) | ((with_reducible refine gate_store (t := 48) (p := 4) rfl ?_); refine store_new rfl 48 (.tmp 4) (.tmp 40) rfl [.int .u32 pa, .int .i64 pl, .int .i64 pe, .int .i64 o, .slice B1 r2.length d1, .int .u32 nx, .int .i64 md, .int .i64 pr, .slice B5 l5.length l5.length, .slice B6 l6.length l6.length, .int .i64 2] (by rfl) (by rfl) BK2T.out (by rfl) (by kernel_rfl) (by intro v hv; simp only [List.mem_cons, List.not_mem_nil, or_false] at hv; rcases hv with rfl | rfl | rfl | rfl | rfl | rfl | rfl | rfl | rfl | rfl | rfl <;> rfl) ?_; intro w8 hx hg hs; have BKF := Aside0.mk hx; have HBF := Aside0.mk (HBT.out.grown hg HBT.out.size (fun k e => by injection e with e; have := GE1.out; have := GE2.out; omega)); have HQ1F := Aside0.mk (Kd.F_grown HQ1T.out hg (fun k hk e => by injection e with e; omega)); have HQ5F := Aside0.mk (Kd.F_grown HQ5T.out hg (fun k hk e => by injection e with e; omega)); have HQ6F := Aside0.mk (Kd.F_grown HQ6T.out hg (fun k hk e => by injection e with e; omega)); have HQIF := Aside0.mk (ints_grown HQIT.out hg (by omega)); clear hx hg hs))
  refine bodyPost_ret (results_ct rfl _ _ g2 48 #[.int .u32 pa, .int .i64 pl, .int .i64 pe, .int .i64 o, .slice B1 r2.length d1, .int .u32 nx, .int .i64 md, .int .i64 pr, .slice B5 l5.length l5.length, .slice B6 l6.length l6.length, .int .i64 2] (0, 0) _ rfl BKF.out Try.underlying48 rfl (by kernel_rfl)) rfl ?_
  exact ⟨B1, d1, B5, _, B6, rfl, HL1.out, Nat.le_refl _, Kd.F_now HQ1F.out, Kd.F_now HQ5F.out, HQIF.out.lower (by have := GE1.out; have := GE2.out; omega), Kd.F_now HQ6F.out, HBF.out⟩
set_option maxHeartbeats 4000000 in
set_option maxRecDepth 100000 in
open Go.Proofs.Ytpkckkmgnlhhcaa.Mid in
theorem mark_more (k : Nat) (pa pl pe o : Int) (A1 : Option Addr) (c1 : Nat) (l1 : List S38) (nx md pr : Int) (A5 : Option Addr) (c5 : Nat) (l5 : List Int) (A6 : Option Addr) (c6 : Nat) (l6 : List S58) (st : Int) (r2 : List S38) (w : World)
    (hr1 : Kd.C k38 w A1 l1.length l1) (hc1 : l1.length ≤ c1) (hr5 : Kd.C (Kd.int .u32) w A5 l5.length l5) (hc5 : l5.length ≤ c5) (hr6 : Kd.C k58 w A6 l6.length l6) (hc6 : l6.length ≤ c6) (hp : path_Own.f k l1 = some r2) (h5 : slices_Clone_uint32_uint32.f l5 = some l5) (h6 : l6.length < 4000) (hd : ∀ r ∈ l6, bytes_Clone.f r.f2 = some r.f2) (h1 : route_Has.f k o l1 nx md pr l5 l6 4294901767 = some false) (h2 : route_Has.f k o r2 nx md pr l5 l6 4294901766 = some false) (hn : l5.length < 32) :
    Calls Try.prog 30 #[.agg #[.int .u32 pa, .int .i64 pl, .int .i64 pe, .int .i64 o, .slice A1 l1.length c1, .int .u32 nx, .int .i64 md, .int .i64 pr, .slice A5 l5.length c5, .slice A6 l6.length c6, .int .i64 st], .int .i64 2] w fun e w' => ∃ B1 d1 B5 d5 B6, e = .returned (.tuple #[.agg #[.int .u32 pa, .int .i64 pl, .int .i64 pe, .int .i64 o, .slice B1 r2.length d1, .int .u32 nx, .int .i64 md, .int .i64 pr, .slice B5 (l5.length + 1) d5, .slice B6 l6.length l6.length, .int .i64 2], .bool true]) ∧ r2.length ≤ d1 ∧ (l5.length + 1) ≤ d5 ∧ Kd.C k38 w' B1 r2.length r2 ∧ Kd.C (Kd.int .u32) w' B5 (l5.length + 1) ((l5 ++ [4294901766])) ∧ Ints w.heap.size w' .u32 40 B5 (l5.length + 1) ∧ Kd.C k58 w' B6 l6.length l6 ∧ Below w.heap.size w w' := by
  have HR1 := Aside0.mk hr1
  have HR5 := Aside0.mk hr5
  have HR6 := Aside0.mk hr6
  have HC := Aside0.mk (And.intro hc1 (And.intro hc5 hc6))
  have hu46 := Try.underlying46
  have hu48 := Try.underlying48
  have HB := Aside0.mk (Below.refl w.heap.size w)
  clear hr1 hc1 hr5 hc5 hr6 hc6
  have HP := Aside0.mk hp
  have H5 := Aside0.mk h5
  have H6 := Aside0.mk h6
  have HD := Aside0.mk hd
  clear hp h5 h6 hd
  have HH1 := Aside0.mk h1
  have HH2 := Aside0.mk h2
  clear h1 h2
  have LN := Aside0.mk hn
  have c1_ : decide ((l5.length : Int) < 32) = true := decide_eq_true (by omega)
  clear hn
  go_enter Try.func30, Try.ntmps30
  go_wp2_with (first | ((with_reducible refine gate_dst (N := 2) rfl ?_); refine box_event ?hg (N := 2) ?hd (cs := #[.int .u32 pa, .int .i64 pl, .int .i64 pe, .int .i64 o, .slice A1 l1.length c1, .int .u32 nx, .int .i64 md, .int .i64 pr, .slice A5 l5.length c5, .slice A6 l6.length c6, .int .i64 st]) (t := 48) ?hr ?_; (case hd => rfl); (case hg => rfl); (case hr => first | (go_simp; done) | (go_simp; rfl)); intro g1 hg w1 hbox hb; have HB1 := Aside0.mk (below_step HB.out hb); have BK11 := Aside0.mk hbox; have GE1 := Aside0.mk (show w.heap.size ≤ g1 from by rw [hg]; exact Nat.le_refl _); clear hbox hb hg) | ((with_reducible refine gate_dst (N := 4) rfl ?_); refine box_event ?hg (N := 4) ?hd (cs := #[.int .u32 0, .int .i64 0, .int .i64 0, .int .i64 0, .slice none 0 0, .int .u32 0, .int .i64 0, .int .i64 0, .slice none 0 0, .slice none 0 0, .int .i64 0]) (t := 48) ?hr ?_; (case hd => rfl); (case hg => rfl); (case hr => first | (go_simp; done) | (go_simp; rfl)); intro g2 hg w2 hbox hb; have HB2 := Aside0.mk (below_step HB1.out hb); have BK1 := Aside0.mk (show w2.heap[g1]? = _ from (hb.block _ (blk_lt BK11.out)).trans BK11.out); have BK2 := Aside0.mk hbox; have GE2 := Aside0.mk (show g1 < g2 from by rw [hg]; exact blk_lt BK11.out); clear BK11; clear hbox hb hg) | ((with_reducible refine gate_dst (N := 10) rfl ?_); (try (refine gate_guard (by rfl) ?_; dsimp only)); refine load_blk rfl 46 (.tmp 9) rfl (g := g1) (off := 3) [.int .i64 o, .slice A1 l1.length c1, .int .u32 nx, .int .i64 md, .int .i64 pr, .slice A5 l5.length c5, .slice A6 l6.length c6] _ rfl BK1.out (seven_r pa pl pe o A1 l1.length c1 nx md pr A5 l5.length c5 A6 l6.length c6 st) Try.underlying46 rfl (by kernel_rfl) ?_) | (go_at_call 35; refine (route_Has.calls k o A1 c1 l1 nx md pr A5 c5 l5 A6 c6 l6 4294901767 false _ (Kd.C_below HR1.out HB2.out) HC.out.1 (Kd.C_below HR5.out HB2.out) HC.out.2.1 (Kd.C_below HR6.out HB2.out) HC.out.2.2 HH1.out).mono ?_; rintro e w3 ⟨rfl, hb⟩; have BK1H := Aside0.mk ((hb.block _ (blk_lt BK1.out)).trans BK1.out); have BK2H := Aside0.mk ((hb.block _ (blk_lt BK2.out)).trans BK2.out); have HBH := Aside0.mk (below_step HB2.out hb); clear hb) | ((with_reducible refine gate_dst (N := 14) rfl ?_); refine load_blk rfl 48 (.tmp 2) rfl (g := g1) (off := 0) [.int .u32 pa, .int .i64 pl, .int .i64 pe, .int .i64 o, .slice A1 l1.length c1, .int .u32 nx, .int .i64 md, .int .i64 pr, .slice A5 l5.length c5, .slice A6 l6.length c6, .int .i64 st] _ rfl BK1H.out (self_r _) Try.underlying48 rfl (by kernel_rfl) ?_) | (go_at_call 37; refine (route_own k pa pl pe o A1 c1 l1 nx md pr A5 c5 l5 A6 c6 l6 st r2 _ (Kd.C_below HR1.out HBH.out) HC.out.1 (Kd.C_below HR5.out HBH.out) HC.out.2.1 (Kd.C_below HR6.out HBH.out) HC.out.2.2 HP.out H5.out H6.out HD.out).mono ?_; rintro e w4 ⟨B1, d1, B5, B6, rfl, hl1, hq1, hq5, hqi, hq6, hb⟩; have HL1 := Aside0.mk hl1; have HGT := Aside0.mk (show g2 < _ from blk_lt BK2H.out); have HQ1 := Aside0.mk (Kd.F_mono (ok' := fun k => g2 < k) hq1 (fun k hk => Nat.lt_of_lt_of_le HGT.out hk)); have HQ5 := Aside0.mk (Kd.F_mono (ok' := fun k => g2 < k) hq5 (fun k hk => Nat.lt_of_lt_of_le HGT.out hk)); have HQ6 := Aside0.mk (Kd.F_mono (ok' := fun k => g2 < k) hq6 (fun k hk => Nat.lt_of_lt_of_le HGT.out hk)); have HQI := Aside0.mk (Ints.lower (B' := g2 + 1) hqi HGT.out); have BK1O := Aside0.mk ((hb.block _ (blk_lt BK1H.out)).trans BK1H.out); have BK2O := Aside0.mk ((hb.block _ (blk_lt BK2H.out)).trans BK2H.out); have HBO := Aside0.mk (below_step HBH.out hb); clear hl1 hq1 hq5 hqi hq6 hb) | ((with_reducible refine gate_store (t := 48) (p := 2) rfl ?_); refine store_new rfl 48 (.tmp 2) (.tmp 15) rfl [.int .u32 pa, .int .i64 pl, .int .i64 pe, .int .i64 o, .slice B1 r2.length d1, .int .u32 nx, .int .i64 md, .int .i64 pr, .slice B5 l5.length l5.length, .slice B6 l6.length l6.length, .int .i64 st] (by rfl) (by rfl) BK1O.out (by rfl) (by kernel_rfl) (by intro v hv; simp only [List.mem_cons, List.not_mem_nil, or_false] at hv; rcases hv with rfl | rfl | rfl | rfl | rfl | rfl | rfl | rfl | rfl | rfl | rfl <;> rfl) ?_; intro w5 hx hg hs; have hz10 : w5.cell? ⟨g1, 10, none⟩ = some (.int .i64 st) := (blk_cell hx 10).trans rfl; have hf10 : w5.frozen? ⟨g1, 10, none⟩ = false := blk_frozen hx 10; have BK1S := Aside0.mk (show (w5.setCell ⟨g1, 10, none⟩ (.int .i64 2)).heap[g1]? = some (.cells #[.int .u32 pa, .int .i64 pl, .int .i64 pe, .int .i64 o, .slice B1 r2.length d1, .int .u32 nx, .int .i64 md, .int .i64 pr, .slice B5 l5.length l5.length, .slice B6 l6.length l6.length, .int .i64 2] 48 (0, 0)) from (blk_set hx 10 (.int .i64 2)).trans rfl); have BK2S := Aside0.mk (show (w5.setCell ⟨g1, 10, none⟩ (.int .i64 2)).heap[g2]? = some (.cells #[.int .u32 0, .int .i64 0, .int .i64 0, .int .i64 0, .slice none 0 0, .int .u32 0, .int .i64 0, .int .i64 0, .slice none 0 0, .slice none 0 0, .int .i64 0] 48 (0, 0)) from (Below.heap_setCell _ _ _ _ (show g2 ≠ g1 from (by have := GE1.out; have := GE2.out; omega))).trans ((hg.block g2 (blk_lt BK2O.out) (fun e => by injection e with e; have := GE2.out; omega)).trans BK2O.out)); have HBS := Aside0.mk (show Below w.heap.size w (w5.setCell ⟨g1, 10, none⟩ (.int .i64 2)) from Below.setCell (HBO.out.grown hg HBO.out.size (fun k e => by injection e with e; have := GE1.out; omega)) GE1.out _); have HQ1S := Aside0.mk (Kd.F_far (p := ⟨g1, 10, none⟩) (Kd.F_grown HQ1.out hg (fun k hk e => by injection e with e; have := GE2.out; omega)) (fun k hk => by have := GE2.out; show k ≠ g1; omega) (.int .i64 2)); have HQ5S := Aside0.mk (Kd.F_far (p := ⟨g1, 10, none⟩) (Kd.F_grown HQ5.out hg (fun k hk e => by injection e with e; have := GE2.out; omega)) (fun k hk => by have := GE2.out; show k ≠ g1; omega) (.int .i64 2)); have HQ6S := Aside0.mk (Kd.F_far (p := ⟨g1, 10, none⟩) (Kd.F_grown HQ6.out hg (fun k hk e => by injection e with e; have := GE2.out; omega)) (fun k hk => by have := GE2.out; show k ≠ g1; omega) (.int .i64 2)); have HQIS := Aside0.mk (Ints.far (p := ⟨g1, 10, none⟩) (ints_grown HQI.out hg (by have := GE2.out; omega)) (.int .i64 2) (by have := GE2.out; show g1 < g2 + 1; omega)); clear hx hg hs) | ((with_reducible refine gate_dst (N := 22) rfl ?_); (try (refine gate_guard (by rfl) ?_; dsimp only)); refine load_blk rfl 46 (.tmp 21) rfl (g := g1) (off := 3) [.int .i64 o, .slice B1 r2.length d1, .int .u32 nx, .int .i64 md, .int .i64 pr, .slice B5 l5.length l5.length, .slice B6 l6.length l6.length] _ rfl BK1S.out (seven_r pa pl pe o B1 r2.length d1 nx md pr B5 l5.length l5.length B6 l6.length l6.length 2) Try.underlying46 rfl (by kernel_rfl) ?_) | (go_at_call 35; refine (route_Has.calls k o B1 d1 r2 nx md pr B5 l5.length l5 B6 l6.length l6 4294901766 false _ (Kd.F_now HQ1S.out) HL1.out (Kd.F_now HQ5S.out) (Nat.le_refl _) (Kd.F_now HQ6S.out) (Nat.le_refl _) HH2.out).mono ?_; rintro e w6 ⟨rfl, hb⟩; have BK1T := Aside0.mk ((hb.block _ (blk_lt BK1S.out)).trans BK1S.out); have BK2T := Aside0.mk ((hb.block _ (blk_lt BK2S.out)).trans BK2S.out); have HBT := Aside0.mk (below_step HBS.out hb); have HQ1T := Aside0.mk (Kd.F_below HQ1S.out hb); have HQ5T := Aside0.mk (Kd.F_below HQ5S.out hb); have HQ6T := Aside0.mk (Kd.F_below HQ6S.out hb); have HQIT := Aside0.mk (HQIS.out.below hb); have hz8 : w6.cell? ⟨g1, 8, none⟩ = some (.slice B5 l5.length l5.length) := (blk_cell BK1T.out 8).trans rfl; clear hb) | ((with_reducible refine gate_builtin (b := .append) (xs := #[.tmp 35, .tmp 36]) rfl ?_); at_builtin; refine append_full w6 rfl (.tmp 35) (.tmp 36) 43 40 rfl Try.underlying43 (show (Try.prog.info? 40).map (fun i => (i.zero, i.size, i.bytes)) = some (some (.int .u32 0), 1, 4) from by kernel_rfl) B5 l5 4294901766 rfl rfl (Kd.F_now HQ5T.out) (fun hA => (Nat.eq_zero_or_pos l5.length).elim id (fun hp => by obtain ⟨g, cells, hA2, _⟩ := HQIT.out hp; rw [hA] at hA2; cases hA2)) (by have := LN.out; omega) ?_; intro v9 w9 ho hb; obtain ⟨BN, dN, e9⟩ := Kd.R_slice ho; subst e9; have hlen : (l5 ++ [4294901766] : List Int).length = l5.length + 1 := (by simp); rw [hlen] at ho; have HLN := Aside0.mk (Kd.R_reads' ho).2.1; have HGU := Aside0.mk (show g2 < w6.heap.size from blk_lt BK2T.out); have BK1U := Aside0.mk ((hb.block _ (blk_lt BK1T.out)).trans BK1T.out); have BK2U := Aside0.mk ((hb.block _ (blk_lt BK2T.out)).trans BK2T.out); have HBU := Aside0.mk (below_step HBT.out hb); have hz8u : w9.cell? ⟨g1, 8, none⟩ = some (.slice B5 l5.length l5.length) := (blk_cell BK1U.out 8).trans rfl; have hf8u : w9.frozen? ⟨g1, 8, none⟩ = false := blk_frozen BK1U.out 8; have BK1V := Aside0.mk (show (w9.setCell ⟨g1, 8, none⟩ (.slice BN (l5.length + 1) dN)).heap[g1]? = some (.cells #[.int .u32 pa, .int .i64 pl, .int .i64 pe, .int .i64 o, .slice B1 r2.length d1, .int .u32 nx, .int .i64 md, .int .i64 pr, .slice BN (l5.length + 1) dN, .slice B6 l6.length l6.length, .int .i64 2] 48 (0, 0)) from (blk_set BK1U.out 8 (.slice BN (l5.length + 1) dN)).trans rfl); have BK2V := Aside0.mk (show (w9.setCell ⟨g1, 8, none⟩ (.slice BN (l5.length + 1) dN)).heap[g2]? = some (.cells #[.int .u32 0, .int .i64 0, .int .i64 0, .int .i64 0, .slice none 0 0, .int .u32 0, .int .i64 0, .int .i64 0, .slice none 0 0, .slice none 0 0, .int .i64 0] 48 (0, 0)) from (Below.heap_setCell _ _ _ _ (show g2 ≠ g1 from (by have := GE1.out; have := GE2.out; omega))).trans BK2U.out); have HBV := Aside0.mk (show Below w.heap.size w (w9.setCell ⟨g1, 8, none⟩ (.slice BN (l5.length + 1) dN)) from Below.setCell HBU.out GE1.out _); have HQ1V := Aside0.mk (Kd.F_far (p := ⟨g1, 8, none⟩) (Kd.F_below HQ1T.out hb) (fun k hk => by have := GE2.out; show k ≠ g1; omega) (.slice BN (l5.length + 1) dN)); have HQ6V := Aside0.mk (Kd.F_far (p := ⟨g1, 8, none⟩) (Kd.F_below HQ6T.out hb) (fun k hk => by have := GE2.out; show k ≠ g1; omega) (.slice BN (l5.length + 1) dN)); have HQNV := Aside0.mk (Kd.F_far (p := ⟨g1, 8, none⟩) (Kd.F_mono (ok' := fun k => g2 < k) (Kd.R_F (Kd.R_tight rfl ho)) (fun k hk => Nat.lt_of_lt_of_le HGU.out (Kd.R_base ho k hk.symm))) (fun k hk => by have := GE2.out; show k ≠ g1; omega) (.slice BN (l5.length + 1) dN)); have HQIV := Aside0.mk (Ints.far (p := ⟨g1, 8, none⟩) (Ints.lower (B' := g2 + 1) (Ints.of_R ho) HGU.out) (.slice BN (l5.length + 1) dN) (by have := GE2.out; show g1 < g2 + 1; omega)); clear ho hb) | ((with_reducible refine gate_dst (N := 40) rfl ?_); refine load_blk rfl 48 (.tmp 2) rfl (g := g1) (off := 0) [.int .u32 pa, .int .i64 pl, .int .i64 pe, .int .i64 o, .slice B1 r2.length d1, .int .u32 nx, .int .i64 md, .int .i64 pr, .slice BN (l5.length + 1) dN, .slice B6 l6.length l6.length, .int .i64 2] _ rfl BK1V.out (self_r _) Try.underlying48 rfl (by kernel_rfl) ?_) | ((with_reducible refine gate_store (t := 48) (p := 4) rfl ?_); refine store_new rfl 48 (.tmp 4) (.tmp 40) rfl [.int .u32 pa, .int .i64 pl, .int .i64 pe, .int .i64 o, .slice B1 r2.length d1, .int .u32 nx, .int .i64 md, .int .i64 pr, .slice BN (l5.length + 1) dN, .slice B6 l6.length l6.length, .int .i64 2] (by rfl) (by rfl) BK2V.out (by rfl) (by kernel_rfl) (by intro v hv; simp only [List.mem_cons, List.not_mem_nil, or_false] at hv; rcases hv with rfl | rfl | rfl | rfl | rfl | rfl | rfl | rfl | rfl | rfl | rfl <;> rfl) ?_; intro w8 hx hg hs; have BKF := Aside0.mk hx; have HBF := Aside0.mk (HBV.out.grown hg HBV.out.size (fun k e => by injection e with e; have := GE1.out; have := GE2.out; omega)); have HQ1F := Aside0.mk (Kd.F_grown HQ1V.out hg (fun k hk e => by injection e with e; omega)); have HQNF := Aside0.mk (Kd.F_grown HQNV.out hg (fun k hk e => by injection e with e; omega)); have HQ6F := Aside0.mk (Kd.F_grown HQ6V.out hg (fun k hk e => by injection e with e; omega)); have HQIF := Aside0.mk (ints_grown HQIV.out hg (by omega)); clear hx hg hs))
  refine bodyPost_ret (results_ct rfl _ _ g2 48 #[.int .u32 pa, .int .i64 pl, .int .i64 pe, .int .i64 o, .slice B1 r2.length d1, .int .u32 nx, .int .i64 md, .int .i64 pr, .slice BN (l5.length + 1) dN, .slice B6 l6.length l6.length, .int .i64 2] (0, 0) _ rfl BKF.out Try.underlying48 rfl (by kernel_rfl)) rfl ?_
  exact ⟨B1, d1, BN, dN, B6, rfl, HL1.out, HLN.out, Kd.F_now HQ1F.out, Kd.F_now HQNF.out, HQIF.out.lower (by have := GE1.out; have := GE2.out; omega), Kd.F_now HQ6F.out, HBF.out⟩


-- NOT PRINTED: function 72 (slices_EqualFunc_api_Segment_api_Segment_api_Segment_api_Segment)

/-! ### slices_Equal_int_int: function 74 -/
def slices_Equal_int_int.l0 : Nat → List Int → List Int → Int → Int → Option (Bool)
  | 0, _, _, _, _ => none
  | k + 1, x0, x1, x12, x13 => if x13 < x12 then (if 0 ≤ x13 then (if x13 < (x0.length : Int) then (if x13 < (x1.length : Int) then (if (rd x0 x13) = (rd x1 x13) then (slices_Equal_int_int.l0 k x0 x1 x12 (wrap64 (x13 + 1))) else (some false)) else (none)) else (none)) else (none)) else (some true)
def slices_Equal_int_int.f (k : Nat) (l0 : List Int) (l1 : List Int) : Option (Bool) := if (l0.length : Int) = (l1.length : Int) then (slices_Equal_int_int.l0 k l0 l1 (l0.length : Int) 0) else (some false)
theorem slices_Equal_int_int.mono_l : ∀ k, (∀ y0 y1 y2 y3, LeO (slices_Equal_int_int.l0 k y0 y1 y2 y3) (slices_Equal_int_int.l0 (k + 1) y0 y1 y2 y3))
  | 0 => fun _ _ _ _ r h => by simp [slices_Equal_int_int.l0] at h
  | k + 1 => by
    have ih0 := slices_Equal_int_int.mono_l k
    · intro y0 y1 y2 y3
      unfold slices_Equal_int_int.l0
      repeat' first
      | (with_reducible exact ih0 _ _ _ _)
      | (with_reducible exact LeO.refl _)
      | (with_reducible exact LeO.none _)
      | (with_reducible refine LeO.ite ?_ ?_)
      | (with_reducible refine LeO.bind ?_ (fun _ => ?_))
      | exact ih0 _ _ _ _
      | exact LeO.none _
      | refine LeO.ite ?_ ?_
      | refine LeO.bind ?_ (fun _ => ?_)
theorem slices_Equal_int_int.mono : ∀ a0 a1 k, LeO (slices_Equal_int_int.f k a0 a1) (slices_Equal_int_int.f (k + 1) a0 a1) := by
  intro a0 a1 k
  have ih0 := slices_Equal_int_int.mono_l k
  unfold slices_Equal_int_int.f
  repeat' first
      | (with_reducible exact ih0 _ _ _ _)
      | (with_reducible exact LeO.refl _)
      | (with_reducible exact LeO.none _)
      | (with_reducible refine LeO.ite ?_ ?_)
      | (with_reducible refine LeO.bind ?_ (fun _ => ?_))
      | exact ih0 _ _ _ _
      | exact LeO.none _
      | refine LeO.ite ?_ ?_
      | refine LeO.bind ?_ (fun _ => ?_)
set_option maxHeartbeats 8000000 in
set_option maxRecDepth 100000 in
theorem slices_Equal_int_int.calls (k : Nat) (A0 : Option Addr) (c0 : Nat) (l0 : List Int) (A1 : Option Addr) (c1 : Nat) (l1 : List Int) (r : Bool) (w : World) (hr0 : Kd.C (Kd.int .i64) w A0 l0.length l0) (hc0 : l0.length ≤ c0) (hr1 : Kd.C (Kd.int .i64) w A1 l1.length l1) (hc1 : l1.length ≤ c1) (h : slices_Equal_int_int.f k l0 l1 = some r) :
    Calls Try.prog 74 #[.slice A0 l0.length c0, .slice A1 l1.length c1] w fun e w' => e = .returned (.bool r) ∧ Drawn0 w w' := by
  have HR0 := Aside0.mk hr0
  have HC0 := Aside0.mk hc0
  clear hr0 hc0
  have HR1 := Aside0.mk hr1
  have HC1 := Aside0.mk hc1
  clear hr1 hc1
  have H : (if (l0.length : Int) = (l1.length : Int) then (slices_Equal_int_int.l0 k l0 l1 (l0.length : Int) 0) else (some false)) = some r := h
  clear h
  by_cases c3 : (l0.length : Int) = (l1.length : Int)
  · rw [if_pos c3] at H
    have c3b0 : ((l0.length : Int) == (l1.length : Int)) = true := beq_iff_eq.mpr c3
    have c3b1 : ((l0.length : Int) != (l1.length : Int)) = false := bne_eq_false_iff_eq.mpr c3
    have c3b2 : (l0.length == l1.length) = true := by first | simpa using c3 | (simp at c3 ⊢; omega)
    clear c3
    have H' := Aside0.mk H
    clear H
    go_enter Try.func74, Try.ntmps74
    go_wp2
    repeat (go_quiet (fail); try go_wp2)
    go_loopg [13] k (fun kq v13 w' => ∃ (x13_1 : Int), v13 = .int .i64 x13_1 ∧ Aside0 (slices_Equal_int_int.l0 kq l0 l1 (l0.length : Int) x13_1 = some r) ∧ Aside0 (kq ≤ k) ∧ Drawn0 w w')
    case atStart => exact ⟨(0), (by first | rfl | (simp; done) | (simp [*]; done)), H', ⟨Nat.le_refl _⟩, by repeat (first | exact Drawn0.refl _ | apply Drawn0.step)⟩
    case round =>
      clear H'
      try clear c1
      try clear p2
      try clear c3
      try clear c3b0
      try clear c3b1
      try clear c3b2
      obtain ⟨x13_1, rfl, HA, HK1, ⟨m1, rfl⟩⟩ := hrel
      cases gk with
      | zero => exact absurd HA.out (by simp [slices_Equal_int_int.l0])
      | succ k1 =>
        have H := HA.out
        clear HA
        simp only [slices_Equal_int_int.l0] at H
        by_cases c4 : x13_1 < (l0.length : Int)
        · rw [if_pos c4] at H
          have c4b0 : decide (x13_1 < (l0.length : Int)) = true := decide_eq_true c4
          clear c4
          by_cases c5 : 0 ≤ x13_1
          · rw [if_pos c5] at H
            have c5b0 : decide (0 ≤ x13_1) = true := decide_eq_true c5
            clear c5
            by_cases c6 : x13_1 < (l0.length : Int)
            · rw [if_pos c6] at H
              have c6b0 : decide (x13_1 < (l0.length : Int)) = true := decide_eq_true c6
              clear c6
              by_cases c7 : x13_1 < (l1.length : Int)
              · rw [if_pos c7] at H
                have c7b0 : decide (x13_1 < (l1.length : Int)) = true := decide_eq_true c7
                clear c7
                by_cases c8 : (rd l0 x13_1) = (rd l1 x13_1)
                · rw [if_pos c8] at H
                  have c8b0 : ((rd l0 x13_1) == (rd l1 x13_1)) = true := beq_iff_eq.mpr c8
                  have c8b1 : ((rd l0 x13_1) != (rd l1 x13_1)) = false := bne_eq_false_iff_eq.mpr c8
                  clear c8
                  have H' := Aside0.mk H
                  clear H
                  have p143 : 0 ≤ (x13_1 : Int) := of_decide_eq_true (by first | (with_reducible assumption) | assumption)
                  have q143 : x13_1 < (l0.length : Int) := of_decide_eq_true (by first | (with_reducible assumption) | assumption)
                  obtain ⟨ad143, e143, hx143_0⟩ := Kd.at_int HR0.out x13_1 p143 q143
                  cases e143
                  replace p143 := eq_true p143
                  replace q143 := eq_true q143
                  have p144 : 0 ≤ (x13_1 : Int) := of_decide_eq_true (by first | (with_reducible assumption) | assumption)
                  have q144 : x13_1 < (l1.length : Int) := of_decide_eq_true (by first | (with_reducible assumption) | assumption)
                  obtain ⟨ad144, e144, hx144_0⟩ := Kd.at_int HR1.out x13_1 p144 q144
                  cases e144
                  replace p144 := eq_true p144
                  replace q144 := eq_true q144
                  go_wp2
                  repeat (go_quiet (fail); try go_wp2)
                  go_roundg k1
                  case measure => have := HK1.out; omega
                  case rel => exact ⟨(wrap64 (x13_1 + 1)), (by first | rfl | (simp; done) | (simp [*]; done)), H', ⟨by have := HK1.out; omega⟩, by repeat (first | exact Drawn0.refl _ | apply Drawn0.step)⟩
                · rw [if_neg c8] at H
                  have c8b0 : ((rd l0 x13_1) == (rd l1 x13_1)) = false := beq_eq_false_iff_ne.mpr c8
                  have c8b1 : ((rd l0 x13_1) != (rd l1 x13_1)) = true := bne_iff_ne.mpr c8
                  obtain rfl := Option.some.inj H
                  have p143 : 0 ≤ (x13_1 : Int) := of_decide_eq_true (by first | (with_reducible assumption) | assumption)
                  have q143 : x13_1 < (l0.length : Int) := of_decide_eq_true (by first | (with_reducible assumption) | assumption)
                  obtain ⟨ad143, e143, hx143_0⟩ := Kd.at_int HR0.out x13_1 p143 q143
                  cases e143
                  replace p143 := eq_true p143
                  replace q143 := eq_true q143
                  have p144 : 0 ≤ (x13_1 : Int) := of_decide_eq_true (by first | (with_reducible assumption) | assumption)
                  have q144 : x13_1 < (l1.length : Int) := of_decide_eq_true (by first | (with_reducible assumption) | assumption)
                  obtain ⟨ad144, e144, hx144_0⟩ := Kd.at_int HR1.out x13_1 p144 q144
                  cases e144
                  replace p144 := eq_true p144
                  replace q144 := eq_true q144
                  go_wp2
                  repeat (go_quiet (fail); try go_wp2)
                  go_ret
                  exact ⟨by first | rfl | (simp; done) | (simp [*]; done), by repeat (first | exact Drawn0.refl _ | apply Drawn0.step)⟩
              · rw [if_neg c7] at H
                exact absurd H (by simp)
            · rw [if_neg c6] at H
              exact absurd H (by simp)
          · rw [if_neg c5] at H
            exact absurd H (by simp)
        · rw [if_neg c4] at H
          have c4b0 : decide (x13_1 < (l0.length : Int)) = false := decide_eq_false c4
          clear c4
          obtain rfl := Option.some.inj H
          go_wp2
          repeat (go_quiet (fail); try go_wp2)
          go_ret
          exact ⟨by first | rfl | (simp; done) | (simp [*]; done), by repeat (first | exact Drawn0.refl _ | apply Drawn0.step)⟩
  · rw [if_neg c3] at H
    have c3b0 : ((l0.length : Int) == (l1.length : Int)) = false := beq_eq_false_iff_ne.mpr c3
    have c3b1 : ((l0.length : Int) != (l1.length : Int)) = true := bne_iff_ne.mpr c3
    have c3b2 : (l0.length == l1.length) = false := by first | simpa using c3 | (simp at c3 ⊢; omega)
    obtain rfl := Option.some.inj H
    go_enter Try.func74, Try.ntmps74
    go_wp2
    repeat (go_quiet (fail); try go_wp2)
    go_ret
    exact ⟨by first | rfl | (simp; done) | (simp [*]; done), by repeat (first | exact Drawn0.refl _ | apply Drawn0.step)⟩

/-! ### path_Same_1: function 73 -/
def path_Same_1.f (k : Nat) (a0_0 : Bool) (l0_1 : List Int) (a1_0 : Bool) (l1_1 : List Int) : Option (Bool) := if (a0_0 == a1_0) = true then ((slices_Equal_int_int.f k l0_1 l1_1).bind fun t147 => (some t147)) else (some false)
theorem path_Same_1.mono : ∀ a0 a1 a2 a3 k, LeO (path_Same_1.f k a0 a1 a2 a3) (path_Same_1.f (k + 1) a0 a1 a2 a3) := by
  intro a0 a1 a2 a3 k
  unfold path_Same_1.f
  repeat' first
      | (with_reducible exact slices_Equal_int_int.mono _ _ _)
      | (with_reducible exact LeO.refl _)
      | (with_reducible exact LeO.none _)
      | (with_reducible refine LeO.ite ?_ ?_)
      | (with_reducible refine LeO.bind ?_ (fun _ => ?_))
      | exact slices_Equal_int_int.mono _ _ _
      | exact LeO.none _
      | refine LeO.ite ?_ ?_
      | refine LeO.bind ?_ (fun _ => ?_)
set_option maxHeartbeats 8000000 in
set_option maxRecDepth 100000 in
theorem path_Same_1.calls (k : Nat) (a0_0 : Bool) (A0_1 : Option Addr) (c0_1 : Nat) (l0_1 : List Int) (a1_0 : Bool) (A1_1 : Option Addr) (c1_1 : Nat) (l1_1 : List Int) (r : Bool) (w : World) (hr0_1 : Kd.C (Kd.int .i64) w A0_1 l0_1.length l0_1) (hc0_1 : l0_1.length ≤ c0_1) (hr1_1 : Kd.C (Kd.int .i64) w A1_1 l1_1.length l1_1) (hc1_1 : l1_1.length ≤ c1_1) (h : path_Same_1.f k a0_0 l0_1 a1_0 l1_1 = some r) :
    Calls Try.prog 73 #[.agg #[.bool a0_0, .slice A0_1 l0_1.length c0_1], .agg #[.bool a1_0, .slice A1_1 l1_1.length c1_1]] w fun e w' => e = .returned (.bool r) ∧ Below w.heap.size w w' := by
  have hu38 := Try.underlying38
  have HR0_1 := Aside0.mk hr0_1
  have HC0_1 := Aside0.mk hc0_1
  clear hr0_1 hc0_1
  have HR1_1 := Aside0.mk hr1_1
  have HC1_1 := Aside0.mk hc1_1
  clear hr1_1 hc1_1
  have HB := Aside0.mk (Below.refl w.heap.size w)
  have H : (if (a0_0 == a1_0) = true then ((slices_Equal_int_int.f k l0_1 l1_1).bind fun t147 => (some t147)) else (some false)) = some r := h
  clear h
  by_cases c3 : (a0_0 == a1_0) = true
  · rw [if_pos c3] at H
    have c3b0 : (a0_0 == a1_0) = true := c3
    (try (have c3b1 : decide (a0_0 = a1_0) = true := by simpa using c3))
    (try (have c3b2 : (a0_0 == a1_0) = true := by simpa using c3))
    clear c3
    replace H := Option.bind_eq_some_iff.mp H
    obtain ⟨t147, A40, H⟩ := H
    replace H : (some t147) = some r := H
    have A4 := Aside0.mk A40
    clear A40
    obtain rfl := Option.some.inj H
    go_enter Try.func73, Try.ntmps73
    go_wp2_with (first | ((with_reducible refine gate_dst (N := 2) rfl ?_); refine box_event ?hg (N := 2) ?hd (cs := #[.bool a0_0, .slice A0_1 l0_1.length c0_1]) (t := 38) ?hr ?_; (case hd => rfl); (case hg => rfl); (case hr => first | (go_simp; done) | (go_simp; rfl) | (go_simp; simp [IntKind.wrap_u8, IntKind.wrap_u32]; done)); intro gb145 hg w5 hbox hb; have n0_ := Aside0.mk (below_step (by repeat (first | (with_reducible first | exact HB.out | apply below_alloc | apply pw_below_drewN | apply below_drew1) | exact HB.out)) hb); have n1_ := Aside0.mk (hbox); have n2_ := Aside0.mk ((by rw [hg]; exact (below_size (by repeat (first | (with_reducible first | exact HB.out | apply below_alloc | apply pw_below_drewN | apply below_drew1) | exact HB.out))) : w.heap.size ≤ gb145)); have n3_ := Aside0.mk ((by rw [hg]; exact (below_size (by repeat (first | (with_reducible first | exact HB.out | apply below_alloc | apply pw_below_drewN | apply below_drew1) | exact HB.out))) : w.heap.size ≤ gb145)); clear HB; have HB := n0_; have BK145 := n1_; have GW145 := n2_; have GE145 := n3_; clear n0_ n1_ n2_ n3_; clear hb hbox hg) | ((with_reducible refine gate_dst (N := 3) rfl ?_); refine box_event ?hg (N := 3) ?hd (cs := #[.bool a1_0, .slice A1_1 l1_1.length c1_1]) (t := 38) ?hr ?_; (case hd => rfl); (case hg => rfl); (case hr => first | (go_simp; done) | (go_simp; rfl) | (go_simp; simp [IntKind.wrap_u8, IntKind.wrap_u32]; done)); intro gb146 hg w6 hbox hb; have n0_ := Aside0.mk (blk_below (g := gb145) (o := .cells #[.bool a0_0, .slice A0_1 l0_1.length c0_1] 38 (0, 0)) (by (with_reducible repeat (first | refine blk_drewN ?_ _ | refine blk_drew ?_ | refine blk_alloc ?_ _)); exact BK145.out) hb); have n1_ := Aside0.mk (below_step (by repeat (first | (with_reducible first | exact HB.out | apply below_alloc | apply pw_below_drewN | apply below_drew1 | refine below_set ?_ GE145.out) | exact HB.out)) hb); have n2_ := Aside0.mk (hbox); have n3_ := Aside0.mk ((by rw [hg]; exact (below_size (by repeat (first | (with_reducible first | exact HB.out | apply below_alloc | apply pw_below_drewN | apply below_drew1 | refine below_set ?_ GE145.out) | exact HB.out))) : w.heap.size ≤ gb146)); have n4_ := Aside0.mk ((by rw [hg]; exact (below_size (by repeat (first | (with_reducible first | exact HB.out | apply below_alloc | apply pw_below_drewN | apply below_drew1 | refine below_set ?_ GE145.out) | exact HB.out))) : w.heap.size ≤ gb146)); have n5_ := Aside0.mk ((by rw [hg]; exact Nat.ne_of_lt (blk_lt (g := gb145) (o := .cells #[.bool a0_0, .slice A0_1 l0_1.length c0_1] 38 (0, 0)) (by (with_reducible repeat (first | refine blk_drewN ?_ _ | refine blk_drew ?_ | refine blk_alloc ?_ _)); exact BK145.out)) : gb145 ≠ gb146)); have n6_ := Aside0.mk ((by rw [hg]; exact Nat.ne_of_gt (blk_lt (g := gb145) (o := .cells #[.bool a0_0, .slice A0_1 l0_1.length c0_1] 38 (0, 0)) (by (with_reducible repeat (first | refine blk_drewN ?_ _ | refine blk_drew ?_ | refine blk_alloc ?_ _)); exact BK145.out)) : gb146 ≠ gb145)); clear BK145; clear HB; have BK145 := n0_; have HB := n1_; have BK146 := n2_; have GW146 := n3_; have GE146 := n4_; have NB145_146 := n5_; have NB146_145 := n6_; clear n0_ n1_ n2_ n3_ n4_ n5_ n6_; clear hb hbox hg; have hnb7 := NB145_146.out; have hnc7 := NB146_145.out; have hcz8_0 : w6.cell? ⟨gb145, 0, none⟩ = some (.bool a0_0) := (blk_cell BK145.out 0).trans rfl; have hcz8_1 : w6.cell? ⟨gb145, 1, none⟩ = some (.slice A0_1 l0_1.length c0_1) := (blk_cell BK145.out 1).trans rfl; have hfz8_0 := blk_frozen BK145.out 0; have hfz8_1 := blk_frozen BK145.out 1; have hcz9_0 : w6.cell? ⟨gb146, 0, none⟩ = some (.bool a1_0) := (blk_cell BK146.out 0).trans rfl; have hcz9_1 : w6.cell? ⟨gb146, 1, none⟩ = some (.slice A1_1 l1_1.length c1_1) := (blk_cell BK146.out 1).trans rfl; have hfz9_0 := blk_frozen BK146.out 0; have hfz9_1 := blk_frozen BK146.out 1) | (go_at_call 74; (with_reducible refine (slices_Equal_int_int.calls k _ _ l0_1 _ _ l1_1 t147 _ ?side1 ?side2 ?side3 ?side4 A4.out).mono ?_); (case side1 => repeat (first | exact (Kd.C_below HR0_1.out HB.out) | (with_reducible refine Kd.C_alloc ?_ _) | (with_reducible refine Kd.C_drewN ?_ _) | (with_reducible refine Kd.C_drew ?_))); (case side2 => exact HC0_1.out); (case side3 => repeat (first | exact (Kd.C_below HR1_1.out HB.out) | (with_reducible refine Kd.C_alloc ?_ _) | (with_reducible refine Kd.C_drewN ?_ _) | (with_reducible refine Kd.C_drew ?_))); (case side4 => exact HC1_1.out); rintro e w' ⟨rfl, ⟨nd, rfl⟩⟩))
    go_ret
    exact ⟨by first | rfl | (simp [errW_none, errW_some] <;> rfl) | (simp [*, errW_none, errW_some] <;> rfl), by repeat (first | (with_reducible first | exact HB.out | apply below_alloc | apply pw_below_drewN | apply below_drew1 | refine below_set ?_ GE145.out | refine below_set ?_ GE146.out) | exact HB.out)⟩
  · rw [if_neg c3] at H
    have c3b0 : (a0_0 == a1_0) = false := by simpa using c3
    (try (have c3b1 : decide (a0_0 = a1_0) = false := by simpa using c3))
    (try (have c3b2 : (a0_0 == a1_0) = false := by simpa using c3))
    (try (have c3b3 : ¬ (a0_0 = a1_0) := by simpa using c3))
    clear c3
    obtain rfl := Option.some.inj H
    go_enter Try.func73, Try.ntmps73
    go_wp2_with (first | ((with_reducible refine gate_dst (N := 2) rfl ?_); refine box_event ?hg (N := 2) ?hd (cs := #[.bool a0_0, .slice A0_1 l0_1.length c0_1]) (t := 38) ?hr ?_; (case hd => rfl); (case hg => rfl); (case hr => first | (go_simp; done) | (go_simp; rfl) | (go_simp; simp [IntKind.wrap_u8, IntKind.wrap_u32]; done)); intro gb145 hg w10 hbox hb; have n0_ := Aside0.mk (below_step (by repeat (first | (with_reducible first | exact HB.out | apply below_alloc | apply pw_below_drewN | apply below_drew1) | exact HB.out)) hb); have n1_ := Aside0.mk (hbox); have n2_ := Aside0.mk ((by rw [hg]; exact (below_size (by repeat (first | (with_reducible first | exact HB.out | apply below_alloc | apply pw_below_drewN | apply below_drew1) | exact HB.out))) : w.heap.size ≤ gb145)); have n3_ := Aside0.mk ((by rw [hg]; exact (below_size (by repeat (first | (with_reducible first | exact HB.out | apply below_alloc | apply pw_below_drewN | apply below_drew1) | exact HB.out))) : w.heap.size ≤ gb145)); clear HB; have HB := n0_; have BK145 := n1_; have GW145 := n2_; have GE145 := n3_; clear n0_ n1_ n2_ n3_; clear hb hbox hg) | ((with_reducible refine gate_dst (N := 3) rfl ?_); refine box_event ?hg (N := 3) ?hd (cs := #[.bool a1_0, .slice A1_1 l1_1.length c1_1]) (t := 38) ?hr ?_; (case hd => rfl); (case hg => rfl); (case hr => first | (go_simp; done) | (go_simp; rfl) | (go_simp; simp [IntKind.wrap_u8, IntKind.wrap_u32]; done)); intro gb146 hg w11 hbox hb; have n0_ := Aside0.mk (blk_below (g := gb145) (o := .cells #[.bool a0_0, .slice A0_1 l0_1.length c0_1] 38 (0, 0)) (by (with_reducible repeat (first | refine blk_drewN ?_ _ | refine blk_drew ?_ | refine blk_alloc ?_ _)); exact BK145.out) hb); have n1_ := Aside0.mk (below_step (by repeat (first | (with_reducible first | exact HB.out | apply below_alloc | apply pw_below_drewN | apply below_drew1 | refine below_set ?_ GE145.out) | exact HB.out)) hb); have n2_ := Aside0.mk (hbox); have n3_ := Aside0.mk ((by rw [hg]; exact (below_size (by repeat (first | (with_reducible first | exact HB.out | apply below_alloc | apply pw_below_drewN | apply below_drew1 | refine below_set ?_ GE145.out) | exact HB.out))) : w.heap.size ≤ gb146)); have n4_ := Aside0.mk ((by rw [hg]; exact (below_size (by repeat (first | (with_reducible first | exact HB.out | apply below_alloc | apply pw_below_drewN | apply below_drew1 | refine below_set ?_ GE145.out) | exact HB.out))) : w.heap.size ≤ gb146)); have n5_ := Aside0.mk ((by rw [hg]; exact Nat.ne_of_lt (blk_lt (g := gb145) (o := .cells #[.bool a0_0, .slice A0_1 l0_1.length c0_1] 38 (0, 0)) (by (with_reducible repeat (first | refine blk_drewN ?_ _ | refine blk_drew ?_ | refine blk_alloc ?_ _)); exact BK145.out)) : gb145 ≠ gb146)); have n6_ := Aside0.mk ((by rw [hg]; exact Nat.ne_of_gt (blk_lt (g := gb145) (o := .cells #[.bool a0_0, .slice A0_1 l0_1.length c0_1] 38 (0, 0)) (by (with_reducible repeat (first | refine blk_drewN ?_ _ | refine blk_drew ?_ | refine blk_alloc ?_ _)); exact BK145.out)) : gb146 ≠ gb145)); clear BK145; clear HB; have BK145 := n0_; have HB := n1_; have BK146 := n2_; have GW146 := n3_; have GE146 := n4_; have NB145_146 := n5_; have NB146_145 := n6_; clear n0_ n1_ n2_ n3_ n4_ n5_ n6_; clear hb hbox hg; have hnb12 := NB145_146.out; have hnc12 := NB146_145.out; have hcz13_0 : w11.cell? ⟨gb145, 0, none⟩ = some (.bool a0_0) := (blk_cell BK145.out 0).trans rfl; have hcz13_1 : w11.cell? ⟨gb145, 1, none⟩ = some (.slice A0_1 l0_1.length c0_1) := (blk_cell BK145.out 1).trans rfl; have hfz13_0 := blk_frozen BK145.out 0; have hfz13_1 := blk_frozen BK145.out 1; have hcz14_0 : w11.cell? ⟨gb146, 0, none⟩ = some (.bool a1_0) := (blk_cell BK146.out 0).trans rfl; have hcz14_1 : w11.cell? ⟨gb146, 1, none⟩ = some (.slice A1_1 l1_1.length c1_1) := (blk_cell BK146.out 1).trans rfl; have hfz14_0 := blk_frozen BK146.out 0; have hfz14_1 := blk_frozen BK146.out 1))
    go_ret
    exact ⟨by first | rfl | (simp [errW_none, errW_some] <;> rfl) | (simp [*, errW_none, errW_some] <;> rfl), by repeat (first | (with_reducible first | exact HB.out | apply below_alloc | apply pw_below_drewN | apply below_drew1 | refine below_set ?_ GE145.out | refine below_set ?_ GE146.out) | exact HB.out)⟩

end Go.Proofs.Ytpkckkmgnlhhcaa.PRouteMarks
