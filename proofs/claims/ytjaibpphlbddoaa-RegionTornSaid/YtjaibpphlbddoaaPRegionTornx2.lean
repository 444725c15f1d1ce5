-- Lean text by a program of this repo (wip/tools/printx.py), out of Lean's own print of the translation
import Derived.Lib.LazyBuf
import Derived.Deep.MidRow
import Derived.Deep.RegionHeld3
import Derived.Test.YtjaibpphlbddoaaMid
import Derived.Test.YtjaibpphlbddoaaPRegionTornx0
import Derived.Test.YtjaibpphlbddoaaPRegionTornx1
namespace Go.Proofs.Ytjaibpphlbddoaa.PRegionTorn
open Go.RowKit Go.Proofs.YtjaibpphlbddoaaW.PrintWords Go.Proofs.YtjaibpphlbddoaaW.PrintLast Go.Proofs.YtjaibpphlbddoaaW.PrintMore
attribute [local go_sem] max2_int min2_int max_two min_two max_three min_three max_four min_four   -- for this text's walks alone
set_option linter.unusedVariables false
set_option linter.unusedSimpArgs false

/-! ### sector_Disk_Flush: function 19 -/
-- FN rounds=0 making=1
-- IMPORT Derived.Test.YtjaibpphlbddoaaMid
-- IMPORT Derived.Deep.RegionHeld3
-- IMPORT Derived.Deep.MidRow
def sector_Disk_Flush.f (s : Disk.DiskM)  : Option (Int × Disk.DiskM) := if s.loose.length < 1000000 then some (Disk.flush s) else none
set_option maxHeartbeats 8000000 in
set_option maxRecDepth 100000 in
open Go.Proofs.Ytjaibpphlbddoaa.Opq Go.Proofs.Ytjaibpphlbddoaa.Mid in
theorem sector_Disk_Flush.calls (g : Nat) (s0_0 : Disk.DiskM)  (r1 : Int) (r2 : Disk.DiskM) (w0 w : World) (hI : IsS67 w0 w g s0_0) (hB : Below w0.heap.size w0 w) (h : sector_Disk_Flush.f s0_0  = some (r1, r2)) :
    Calls Try.prog 19 #[.pointer (some ⟨g, 0, none⟩)] w fun e w' => e = .returned (.int .i64 r1) ∧ IsS67 w0 w' g r2 ∧ Below w0.heap.size w0 w' ∧ Go.Proofs.Ytjaibpphlbddoaa.Opq.KeepO ts67 w0.heap.size w w' := by
  unfold sector_Disk_Flush.f at h
  split at h
  case isFalse => cases h
  case isTrue hlen =>
  have h := Option.some.inj h
  have HI := Aside0.mk hI
  have HB := Aside0.mk hB
  have HL := Aside0.mk hlen
  clear hI hlen hB
  unfold Disk.flush at h
  cases hd : (Disk.burn s0_0).down with
  | true =>
    rw [if_pos hd] at h
    injection h with h1 h2
    subst h1 h2
    have HX := Aside0.mk (sector_Disk_burn.calls g s0_0 false (Disk.burn s0_0) w0 w HI.out HB.out (by unfold sector_Disk_burn.f; rw [hd]; rfl))
    clear hd
    go_enter Try.func19, Try.ntmps19
    go_wp2_with (go_at_call 35; refine HX.out.mono ?_; rintro e w1 ⟨rfl, hr⟩; have HR1 := Aside0.mk hr; clear hr)
    go_ret
    exact ⟨rfl, HR1.out⟩
  | false =>
    rw [if_neg (by rw [hd]; simp)] at h
    injection h with h1 h2
    subst h1 h2
    have HX := Aside0.mk (sector_Disk_burn.calls g s0_0 true (Disk.burn s0_0) w0 w HI.out HB.out (by unfold sector_Disk_burn.f; rw [hd]; rfl))
    clear hd
    have hu := Try.underlying71
    have HSZ := Aside0.mk (show (Try.prog.info? 71).map (·.size) = some 65 by kernel_rfl)
    have HU := Aside0.mk hu
    clear hu
    go_enter Try.func19, Try.ntmps19
    go_wp2_with fail
    refine HX.out.mono ?_
    rintro e w1 ⟨rfl, hi, hb, hk⟩
    obtain ⟨gl, vo, hg, hge, hgb, hgl, hown, hok⟩ := hi
    obtain ⟨Av, cv, rfl, _⟩ := disk_loose_nil hown
    have hcell1 : w1.cell? ⟨g, 1, none⟩ = some (.slice Av s0_0.loose.length cv) := (blk_cell hg 1).trans rfl
    have HALL := Aside0.mk (And.intro hg (And.intro hge (And.intro hgb (And.intro hgl (And.intro hown hok)))))
    have HB1 := Aside0.mk hb
    have HK1 := Aside0.mk hk
    clear HX hg hge hgb hgl hown hok hb hk
    go_wp2_with fail
    go_loopg [17] (s0_0.loose.length + 1) (fun kq v17 wr => ∃ k : Nat, v17 = .int .i64 k ∧ Aside0 (k + kq = s0_0.loose.length + 1) ∧ Aside0 (w1.grownBy wr (some gl)) ∧ Aside0 (wr.heap[gl]? = some (.cells (Disk.bytes (Disk.settle (s0_0.loose.take k) s0_0.lasts)).toArray 69 (0, 0))))
    case atStart =>
      exact ⟨0, rfl, ⟨by omega⟩, ⟨⟨rfl, rfl, rfl, Nat.le_refl _, fun _ _ _ => rfl⟩⟩, ⟨HALL.out.2.2.2.1⟩⟩
    case round =>
      obtain ⟨k, rfl, HQ, HG, HLL⟩ := hrel
      by_cases hlt : k < s0_0.loose.length
      · have d0 : decide (k < s0_0.loose.length) = true := decide_eq_true hlt
        obtain ⟨go, cap, cur, hv, hgo, hh, hc, hcells⟩ : ∃ go cap cur, Value.slice Av s0_0.loose.length cv = .slice (some ⟨go, 0, none⟩) s0_0.loose.length cap ∧ w0.heap.size ≤ go ∧ w1.heap[go]? = some (.cells cur 71 (0, 0)) ∧ s0_0.loose.length ≤ cap ∧
          ∀ (k : Nat) (hk : k < s0_0.loose.length) j v, (Value.int .i64 (s0_0.loose[k]).1 :: Disk.bytes (s0_0.loose[k]).2)[j]? = some v → cur.toList[k * 65 + j]? = some v := disk_loose (s := Disk.burn s0_0) HALL.out.2.2.2.2.1 HALL.out.2.2.2.2.2 (show 0 < s0_0.loose.length by omega)
        injection hv with hA _ hcv
        subst hA hcv
        have q0 : (0 : Int) ≤ (k : Int) := by omega
        have q1 : (k : Int) < (s0_0.loose.length : Int) := by omega
        have hgogl : go ≠ gl := fun e => by
          subst e
          have h3 := HALL.out.2.2.2.1
          rw [hh] at h3
          injection h3 with hc
          injection hc with _ hc
          exact absurd hc (by decide)
        have HH := Aside0.mk ((HG.out.block go (blk_lt hh) (fun e => by injection e with e; exact hgogl e)).trans hh)
        have HC := Aside0.mk (fun j v => hcells k hlt j v)
        have HOK := Aside0.mk (HALL.out.2.2.2.2.2.loose s0_0.loose[k] (List.getElem_mem hlt))
        have HT := Aside0.mk hlt
        have HW := Aside0.mk (show s0_0.loose.take (k + 1) = s0_0.loose.take k ++ [s0_0.loose[k]] from List.take_succ_eq_append_getElem hlt)
        generalize s0_0.loose[k] = p at HC HW HOK
        obtain ⟨pa, b⟩ := p
        obtain ⟨m, rfl⟩ := Int.eq_ofNat_of_zero_le HOK.out.1
        have HE := Aside0.mk (show (Value.int .i64 (m : Int) :: Disk.bytes b).length = 65 by
          have := HOK.out.2.2
          simp [Disk.bytes, this])
        clear hlt hgo hh hc hcells hgogl
        cases gk with
        | zero => exact absurd HQ.out (by have := HT.out; omega)
        | succ k1 =>
        go_wp2_with (first
          | ((with_reducible refine gate_dst (N := 20) rfl ?_); refine load_blk rfl 71 (.tmp 19) rfl (Value.int .i64 (m : Int) :: Disk.bytes b) _ (by rfl) HH.out HC.out HU.out rfl (by rw [HE.out]; exact HSZ.out) ?_)
          | ((with_reducible refine gate_dst (N := 4) rfl ?_); refine box_event rfl (N := 4) rfl (cs := (Value.int .i64 0 :: Disk.bytes (List.replicate 64 0)).toArray) (t := 71) (by kernel_rfl) ?_; intro gb hgb w5 hbox hb5; have HX := Aside0.mk hbox; have HB5 := Aside0.mk hb5; have HGB := Aside0.mk hgb; clear hgb hbox hb5)
          | ((with_reducible refine gate_store (t := 71) (p := 4) rfl ?_); refine store_new rfl 71 (.tmp 4) (.tmp 20) rfl (Value.int .i64 (m : Int) :: Disk.bytes b) (by rfl) (by rfl) HX.out (by rw [HE.out]; rfl) (by rw [HE.out]; exact HSZ.out) (elem_one ((m : Int), b)) ?_; intro w6 hx6 hg6 hs6; have HX6 := Aside0.mk hx6; have HB6 := Aside0.mk (show Below wr.heap.size wr w6 from HB5.out.grown hg6 HB5.out.size (fun k e => by injection e with e; have := HGB.out; omega)); clear hx6 hg6 hs6))
        obtain ⟨n, hn⟩ : ∃ n, n = s0_0.lasts.length / 64 := ⟨_, rfl⟩
        obtain ⟨bb, hbb⟩ : ∃ bb, bb = Disk.bytes b := ⟨_, rfl⟩
        have hbl : bb.length = 64 := by rw [hbb, Disk.bytes_length]; exact HOK.out.2.2
        have p0 : (0 : Int) ≤ (m : Int) := by omega
        have hmn : m < n := by have h2 : (m : Int) < ((s0_0.lasts.length / 64 : Nat) : Int) := HOK.out.2.1; omega
        have p1 : (m : Int) < (n : Int) := by omega
        have HGR6 := Aside0.mk (show w1.grownBy w6.drew (some gl) from grown_below HG.out (show Below wr.heap.size wr w6.drew from ⟨HB6.out.1, HB6.out.2, HB6.out.3, HB6.out.4, HB6.out.5⟩))
        have hL6 : w6.drew.heap[gl]? = some (.cells (Disk.bytes (Disk.settle (s0_0.loose.take k) s0_0.lasts)).toArray 69 (0, 0)) := (HB6.out.block gl (blk_lt HLL.out)).trans HLL.out
        have hbo := Disk.there_in (s := Disk.burn s0_0) HALL.out.2.2.2.2.2 (at_ := (m : Int)) (by unfold Disk.there; rw [decide_eq_true HOK.out.1, decide_eq_true HOK.out.2.1]; rfl)
        have hLl : (Disk.settle (s0_0.loose.take k) s0_0.lasts).length = s0_0.lasts.length := settle_length (fun p hp => by
            have h2 := HALL.out.2.2.2.2.2.loose p (List.mem_of_mem_take hp)
            have h3 := Disk.there_in HALL.out.2.2.2.2.2 (at_ := p.1) (by unfold Disk.there; rw [decide_eq_true h2.1, decide_eq_true h2.2.1]; rfl)
            exact ⟨h3.2.2, h2.2.2⟩)
        have hoff : m * 64 + b.length ≤ (Disk.settle (s0_0.loose.take k) s0_0.lasts).length := by rw [hLl]; have := hbo.2.2; have := HOK.out.2.2; simp at *; omega
        have HPUT := Aside0.mk (put_world hL6 hoff)
        rw [← hbb] at HPUT
        have hgw : w6.drew.heap[g]? = _ := (HGR6.out.block g (blk_lt HALL.out.1) (fun e => by injection e with e; exact disk_ne HALL.out.1 HALL.out.2.2.2.1 e)).trans HALL.out.1
        have hS := disk_step (n := n) (m := m) (bb := bb) (show w6.drew.heap[g]? = _ from hn ▸ hgw) hL6 HX6.out hbb (by omega) (disk_ne HALL.out.1 HALL.out.2.2.2.1) (show gb ≠ gl from fun e => by subst e; have := blk_lt HLL.out; have := HGB.out; omega) hbl
        have hSd := hS.1
        have hSs := hS.2
        have hi : (Try.prog.info? 69).map (·.size) = some bb.length := by rw [hbl]; kernel_rfl
        have hu := Try.underlying69
        have h1 : ∀ v ∈ bb, v.oneCell' = true := by rw [hbb]; intro v hv; unfold Disk.bytes at hv; obtain ⟨x, _, rfl⟩ := List.mem_map.1 hv; rfl
        have HGX := Aside0.mk (show w1.grownBy (w6.drew.setCells gl (m * 64) bb) (some gl) from grown_row HGR6.out (grown_setCells gl (m * 64) bb _))
        have HBB := Aside0.mk hbb
        clear hS hgw hoff hLl hbo hL6 hbb hn hmn
        go_region_held3 (fun w' => w'.cell? ⟨g, 0, none⟩ = some (.slice (some ⟨gl, 0, none⟩) n n) ∧ w'.cell? ⟨gb, 0, none⟩ = some (.int .i64 (m : Int)) ∧ w'.rangeAt gb 1 bb ∧ w'.there gl (m * 64) bb.length) (first | exact hSd | exact hSs) (fail)
        clear hSd hSs hu hi h1
        go_wp2
        go_roundg k1
        case measure => omega
        case rel => exact ⟨k + 1, (by rw [show RowKit.wrap64 ((k : Int) + 1) = ((k + 1 : Nat) : Int) by have := HL.out; have := HT.out; unfold RowKit.wrap64; omega]), ⟨by have := HQ.out; omega⟩, HGX, ⟨by rw [HW.out, settle_snoc]; exact HPUT.out⟩⟩
      · have d0 : decide (k < s0_0.loose.length) = false := decide_eq_false hlt
        have HT := Aside0.mk (show s0_0.loose.length ≤ k by omega)
        clear hlt
        have hgw : wr.heap[g]? = _ := (HG.out.block g (blk_lt HALL.out.1) (fun e => by injection e with e; exact disk_ne HALL.out.1 HALL.out.2.2.2.1 e)).trans HALL.out.1
        have hcg : wr.cell? ⟨g, 1, none⟩ = some (.slice Av s0_0.loose.length cv) := (blk_cell hgw 1).trans rfl
        have hfg : wr.frozen? ⟨g, 1, none⟩ = false := blk_frozen hgw 1
        have HGW := Aside0.mk hgw
        clear hgw
        go_wp2
        go_ret
        have hfin := disk_landed (s := Disk.burn s0_0) (W := wr.setCell ⟨g, 1, none⟩ (.slice none 0 0)) (L := Disk.settle s0_0.loose s0_0.lasts) (f := (Disk.burn s0_0).fuse) (dn := (Disk.burn s0_0).down) HALL.out HB1.out HG.out (by have := HLL.out; rw [List.take_of_length_le HT.out] at this; exact this)
          (settle_length (fun p hp => by
            have h2 := HALL.out.2.2.2.2.2.loose p hp
            have h3 := Disk.there_in HALL.out.2.2.2.2.2 (at_ := p.1) (by unfold Disk.there; rw [decide_eq_true h2.1, decide_eq_true h2.2.1]; rfl)
            exact ⟨h3.2.2, h2.2.2⟩))
          (by simpa using blk_set HGW.out 1 (.slice none 0 0)) (fun k hk => Below.heap_setCell _ _ _ _ hk) (by simp [World.setCell]) ⟨rfl, rfl, rfl⟩
        exact ⟨rfl, hfin.1, hfin.2.1, HK1.out.trans hfin.2.2⟩


/-! ### region_Size: function 38 -/
def region_Size.f (a0 : Int) : Option (Int) := some (wrap64 (1 + (wrap64 (Int.tdiv (wrap64 ((wrap64 ((mx a0 0) + 64)) - 1)) 64))))
set_option maxHeartbeats 8000000 in
set_option maxRecDepth 100000 in
theorem region_Size.calls (a0 : Int) (r : Int) (w : World) (h : region_Size.f a0 = some r) :
    Calls Try.prog 38 #[.int .i64 a0] w fun e w' => e = .returned (.int .i64 r) ∧ Below w.heap.size w w' := by
  have HB := Aside0.mk (Below.refl w.heap.size w)
  have H : (some (wrap64 (1 + (wrap64 (Int.tdiv (wrap64 ((wrap64 ((mx a0 0) + 64)) - 1)) 64))))) = some r := h
  clear h
  obtain ⟨ji2, hji2⟩ : ∃ j_ : Int, (mx a0 0) = j_ := ⟨_, rfl⟩
  replace H : (some (wrap64 (1 + (wrap64 (Int.tdiv (wrap64 ((wrap64 ((ji2) + 64)) - 1)) 64))))) = some r := by first | (rw [hji2] at H; exact H) | (simp only [hji2] at H ⊢; exact H)
  (try (have hji2l : 0 ≤ ji2 := by (rw [← hji2]; unfold mx; (repeat' split) <;> omega)))
  (try (have hji2m : 0 ≤ ji2 := by omega))
  have hji2_ : (if a0 < 0 then 0 else a0) = ji2 := hji2
  obtain rfl := Option.some.inj H
  go_enter Try.func38, Try.ntmps38
  go_wp2
  go_ret
  exact ⟨by first | rfl | (simp [errW_none, errW_some] <;> rfl) | (simp only [← hji2]; first | rfl | (simp [errW_none, errW_some] <;> rfl)) | (simp [*, errW_none, errW_some] <;> rfl), by repeat (first | (with_reducible first | exact HB.out | apply below_alloc | apply pw_below_drewN | apply below_drew1) | exact HB.out)⟩

/-! ### region_Put: function 50 -/
def region_Put.f (l0 : List Int) (a1 : Int) : Option (List Int) := (some (([(a1 / 16777216) % 256, (a1 / 65536) % 256, (a1 / 256) % 256, (a1) % 256] : List Int) : List Int)).bind fun y101 => (if l0.length + y101.length < 140737488355328 then (some (l0 ++ y101)) else (none))
set_option maxHeartbeats 8000000 in
set_option maxRecDepth 100000 in
theorem region_Put.calls (P0_ : Nat → Prop) (u9000_ : Value) (l0 : List Int) (a1 : Int) (r : List Int) (w0 w : World) (hB : Below w0.heap.size w0 w) (ho0 : Kd.R (Kd.int .u8) 5 w w0.heap.size P0_ u9000_ l0) (h : region_Put.f l0 a1 = some r) :
    Calls Try.prog 50 #[u9000_, .int .u32 a1] w fun e w' => ∃ v0_ : Value, e = .returned (v0_) ∧ Kd.R (Kd.int .u8) 5 w' w0.heap.size (fun k_ => (P0_ k_ ∨ w.heap.size ≤ k_)) v0_ r ∧ Below w0.heap.size w0 w' ∧ Kept w w' (fun k_ => P0_ k_) := by
  have HO0 := Aside0.mk (show Kd.R (Kd.int .u8) 5 w w0.heap.size (fun k_ => (P0_ k_ ∨ w.heap.size ≤ k_)) u9000_ l0 from Kd.R_mono ho0 (fun k_ hk => (.inl hk)))
  have HK := Aside0.mk (Kept.refl w (fun k_ => P0_ k_))
  have HW0 := Aside0.mk hB.size
  have HB := Aside0.mk hB
  clear hB
  have H : ((some (([(a1 / 16777216) % 256, (a1 / 65536) % 256, (a1 / 256) % 256, (a1) % 256] : List Int) : List Int)).bind fun y101 => (if l0.length + y101.length < 140737488355328 then (some (l0 ++ y101)) else (none))) = some r := h
  clear h
  obtain ⟨y101, hy101⟩ : ∃ y_ : List Int, y_ = (([(a1 / 16777216) % 256, (a1 / 65536) % 256, (a1 / 256) % 256, (a1) % 256] : List Int)) := ⟨_, rfl⟩
  replace H : (if l0.length + y101.length < 140737488355328 then (some (l0 ++ y101)) else (none)) = some r := by first | (rw [hy101]; with_reducible exact H) | (have H2_ := (Option.bind_some _ _).symm.trans H; rw [hy101]; with_reducible exact H2_) | (have H2_ := (Option.bind_some _ _).symm.trans H; with_reducible exact H2_) | with_reducible exact H | (rw [hy101]; exact H) | exact H
  have Ny101 := Aside0.mk hy101
  clear hy101
  by_cases c3 : l0.length + y101.length < 140737488355328
  · rw [if_pos c3] at H
    have LMc3 := Aside0.mk c3
    clear c3
    obtain ⟨y104, hy104⟩ : ∃ y_ : List Int, y_ = (l0 ++ y101) := ⟨_, rfl⟩
    replace H : (some y104) = some r := by first | (rw [hy104]; with_reducible exact H) | (have H2_ := (Option.bind_some _ _).symm.trans H; rw [hy104]; with_reducible exact H2_) | (have H2_ := (Option.bind_some _ _).symm.trans H; with_reducible exact H2_) | with_reducible exact H | (rw [hy104]; exact H) | exact H
    have Ny104 := Aside0.mk hy104
    clear hy104
    obtain rfl := Option.some.inj H
    go_enter Try.func50, Try.ntmps50
    go_wp2_with (first | ((with_reducible refine gate_dst (N := 17) rfl ?_); refine Kd.R_lit (Kd.int .u8) _ 5 ?hg (N := 17) ?hd (xs := ([(a1 / 16777216) % 256, (a1 / 65536) % 256, (a1 / 256) % 256, (a1) % 256] : List Int)) (inner := [.int .u8 ((a1 / 16777216) % 256), .int .u8 ((a1 / 65536) % 256), .int .u8 ((a1 / 256) % 256), .int .u8 ((a1) % 256)]) (ok := fun _ => True) (okp := fun _ => True) ?hr ?hp (fun _ hk => hk) trivial (Below.refl _ _) (Nat.le_refl _) (by simp) ?_; (case hd => rfl); (case hg => rfl); (case hr => first | (go_simp; done) | (go_simp; rfl) | (go_simp; simp [IntKind.wrap_u8, IntKind.wrap_u32]; done)); (case hp => exact (Reps.one (show Kd.M (Kd.int .u8) _ _ _ ((a1 / 16777216) % 256) [.int .u8 ((a1 / 16777216) % 256)] from rfl) (Reps.one (show Kd.M (Kd.int .u8) _ _ _ ((a1 / 65536) % 256) [.int .u8 ((a1 / 65536) % 256)] from rfl) (Reps.one (show Kd.M (Kd.int .u8) _ _ _ ((a1 / 256) % 256) [.int .u8 ((a1 / 256) % 256)] from rfl) (Reps.one (show Kd.M (Kd.int .u8) _ _ _ ((a1) % 256) [.int .u8 ((a1) % 256)] from rfl) (Reps.none _ _)))))); intro v102 w4 ho5 hb hg_ hnew_; clear hg_ hnew_; (first | rw [← Ny101.out] at ho5 | (simp only [Int.reduceToNat] at ho5; rw [← Ny101.out] at ho5)); have n0_ := Aside0.mk (Kd.R_elder' (by (with_reducible repeat (first | apply Kd.R_alloc | apply Kd.R_drewN | apply Kd.R_drew)); exact HO0.out) (Kd.R_base ho5) hb); have n1_ := Aside0.mk (Kd.R_lower (Kd.R_new' (Kd.R_newM (M := fun k_ => (P0_ k_ ∨ w.heap.size ≤ k_)) ho5 (by first | exact HK.out.1 | exact (show Kept w _ (fun k_ => P0_ k_) from by repeat (first | (with_reducible first | exact HK.out | apply Kept.alloc | apply Kept.drewN | apply Kept.drew) | exact HK.out)).1) (fun k_ h_ => .inr h_)) (Kd.R_lt (by (with_reducible repeat (first | apply Kd.R_alloc | apply Kd.R_drewN | apply Kd.R_drew)); exact HO0.out))) (below_size (by repeat (first | (with_reducible first | exact HB.out | apply below_alloc | apply pw_below_drewN | apply below_drew1) | exact HB.out)))); have n2_ := Aside0.mk (Kept.below (S := (fun k_ => P0_ k_)) (by repeat (first | (with_reducible first | exact HK.out | apply Kept.alloc | apply Kept.drewN | apply Kept.drew) | exact HK.out)) hb); have n3_ := Aside0.mk (below_step (by repeat (first | (with_reducible first | exact HB.out | apply below_alloc | apply pw_below_drewN | apply below_drew1) | exact HB.out)) hb); clear HO0; clear HK; clear HB; have HO0 := n0_; have HO103 := n1_; have HK := n2_; have HB := n3_; clear n0_ n1_ n2_ n3_; clear hb ho5; obtain ⟨Ao7, co7, eo7⟩ := Kd.R_slice HO103.out; subst eo7) | ((with_reducible refine gate_builtin (b := .append) (xs := #[.tmp 5, .tmp 17]) rfl ?_); at_builtin; refine Kd.R_append_rows (Kd.int .u8) (w0 := w0) w0.heap.size rfl (.tmp 5) (.tmp 17) 22 5 (.int .u8 0) 1 rfl Try.underlying22 info5 rfl (by decide) (by omega) u9000_ l0 y101 _ _ _ (fun k_ => (P0_ k_ ∨ w.heap.size ≤ k_) ∧ some k_ ≠ (.slice Ao7 y101.length co7 : Value).ownBlock) (fun _ => False) rfl rfl ?aO ?aR (fun _ _ h => h) (fun _ h => h.elim) ?aF ?aB ?aS ?aL ?_; (case aR => repeat (first | exact (Kd.R_reads' HO103.out).2.2 | (with_reducible refine Kd.C_alloc ?_ _) | (with_reducible refine Kd.C_drewN ?_ _) | (with_reducible refine Kd.C_drew ?_))); (case aB => exact (by repeat (first | (with_reducible first | exact HB.out | apply below_alloc | apply pw_below_drewN | apply below_drew1) | exact HB.out))); (case aF => exact (fun k_ hk => ⟨(.inr (Nat.le_trans (by first | exact HK.out.1 | exact (show Kept w _ (fun k_ => P0_ k_) from by repeat (first | (with_reducible first | exact HK.out | apply Kept.alloc | apply Kept.drewN | apply Kept.drew) | exact HK.out)).1) hk)), Kd.fresh' (Kd.R_lt (by (with_reducible repeat (first | apply Kd.R_alloc | apply Kd.R_drewN | apply Kd.R_drew)); exact HO103.out)) k_ hk⟩)); (case aO => exact (by (with_reducible repeat (first | apply Kd.R_alloc | apply Kd.R_drewN | apply Kd.R_drew)); exact HO0.out)); (case aS => exact (below_size (by repeat (first | (with_reducible first | exact HB.out | apply below_alloc | apply pw_below_drewN | apply below_drew1) | exact HB.out)))); (case aL => have := LMc3.out; omega); intro v105 w6 ho hb hg hat; rw [← Ny104.out] at ho; have n0_ := Aside0.mk (Kd.R_after (ok := (fun k_ => (P0_ k_ ∨ w.heap.size ≤ k_))) (by (with_reducible repeat (first | apply Kd.R_alloc | apply Kd.R_drewN | apply Kd.R_drew)); exact Kd.R_mono HO103.out (fun _ hk => ⟨hk.1.1, hk.2⟩)) hg hat); have n1_ := Aside0.mk (hb); have n2_ := Aside0.mk (Kept.of_grown (S := (fun k_ => P0_ k_)) hg (by repeat (first | (with_reducible first | exact HK.out | apply Kept.alloc | apply Kept.drewN | apply Kept.drew) | exact HK.out)) (fun k_ e_ => (HO0.out.1 k_ e_).1)); have n3_ := Aside0.mk (ho); clear HO103; clear HB; clear HK; clear HO0; have HO103 := n0_; have HB := n1_; have HK := n2_; have HO106 := n3_; clear n0_ n1_ n2_ n3_; clear ho hb hg hat))
    go_ret
    exact ⟨_, by first | rfl | (simp [errW_none, errW_some] <;> rfl) | (simp [*, errW_none, errW_some] <;> rfl), by (with_reducible repeat (first | apply Kd.R_alloc | apply Kd.R_drewN | apply Kd.R_drew)); exact Kd.R_mono HO106.out (fun _ hk => hk.1), by repeat (first | (with_reducible first | exact HB.out | apply below_alloc | apply pw_below_drewN | apply below_drew1) | exact HB.out), by repeat (first | (with_reducible first | exact HK.out | apply Kept.alloc | apply Kept.drewN | apply Kept.drew) | exact HK.out)⟩
  · rw [if_neg c3] at H
    exact absurd H (by simp)

/-! ### sum_Of: function 51 -/
mutual
def sum_Of.l0 : Nat → Int → List Int → Int → Int → Option (Int)
  | 0, _, _, _, _ => none
  | k + 1, x3, x7, x8, x9 => if x9 < x8 then (if 0 ≤ x9 then (if x9 < (x7.length : Int) then (sum_Of.l1 k (Go.bits .xor .u32 x3 ((rd x7 x9) % 4294967296)) x7 x8 x9 0) else (none)) else (none)) else (some (Go.bits .xor .u32 4294967295 x3))
def sum_Of.l1 : Nat → Int → List Int → Int → Int → Int → Option (Int)
  | 0, _, _, _, _, _ => none
  | k + 1, x3, x7, x8, x9, x17 => if x17 < 8 then (sum_Of.l1 k (Go.bits .xor .u32 (x3 / 2) ((2197175160 * (Go.bits .and .u32 x3 1)) % 4294967296)) x7 x8 x9 (wrap64 (x17 + 1))) else (sum_Of.l0 k x3 x7 x8 (wrap64 (x9 + 1)))
end
def sum_Of.f (k : Nat) (l0 : List Int) : Option (Int) := sum_Of.l0 k 4294967295 l0 (l0.length : Int) 0
theorem sum_Of.mono_l : ∀ k, (∀ y0 y1 y2 y3, LeO (sum_Of.l0 k y0 y1 y2 y3) (sum_Of.l0 (k + 1) y0 y1 y2 y3)) ∧ (∀ y0 y1 y2 y3 y4, LeO (sum_Of.l1 k y0 y1 y2 y3 y4) (sum_Of.l1 (k + 1) y0 y1 y2 y3 y4))
  | 0 => ⟨fun _ _ _ _ r h => by simp [sum_Of.l0] at h, fun _ _ _ _ _ r h => by simp [sum_Of.l1] at h⟩
  | k + 1 => by
    obtain ⟨ih0, ih1⟩ := sum_Of.mono_l k
    refine ⟨?_, ?_⟩
    · intro y0 y1 y2 y3
      unfold sum_Of.l0
      repeat' first
      | (with_reducible exact ih0 _ _ _ _)
      | (with_reducible exact ih1 _ _ _ _ _)
      | (with_reducible exact LeO.refl _)
      | (with_reducible exact LeO.none _)
      | (with_reducible refine LeO.ite ?_ ?_)
      | (with_reducible refine LeO.bind ?_ (fun _ => ?_))
      | exact ih0 _ _ _ _
      | exact ih1 _ _ _ _ _
      | exact LeO.none _
      | refine LeO.ite ?_ ?_
      | refine LeO.bind ?_ (fun _ => ?_)
    · intro y0 y1 y2 y3 y4
      unfold sum_Of.l1
      repeat' first
      | (with_reducible exact ih0 _ _ _ _)
      | (with_reducible exact ih1 _ _ _ _ _)
      | (with_reducible exact LeO.refl _)
      | (with_reducible exact LeO.none _)
      | (with_reducible refine LeO.ite ?_ ?_)
      | (with_reducible refine LeO.bind ?_ (fun _ => ?_))
      | exact ih0 _ _ _ _
      | exact ih1 _ _ _ _ _
      | exact LeO.none _
      | refine LeO.ite ?_ ?_
      | refine LeO.bind ?_ (fun _ => ?_)
theorem sum_Of.mono : ∀ a0 k, LeO (sum_Of.f k a0) (sum_Of.f (k + 1) a0) := by
  intro a0 k
  obtain ⟨ih0, ih1⟩ := sum_Of.mono_l k
  unfold sum_Of.f
  repeat' first
      | (with_reducible exact ih0 _ _ _ _)
      | (with_reducible exact ih1 _ _ _ _ _)
      | (with_reducible exact LeO.refl _)
      | (with_reducible exact LeO.none _)
      | (with_reducible refine LeO.ite ?_ ?_)
      | (with_reducible refine LeO.bind ?_ (fun _ => ?_))
      | exact ih0 _ _ _ _
      | exact ih1 _ _ _ _ _
      | exact LeO.none _
      | refine LeO.ite ?_ ?_
      | refine LeO.bind ?_ (fun _ => ?_)
set_option maxHeartbeats 8000000 in
set_option maxRecDepth 100000 in
theorem sum_Of.calls (k : Nat) (A0 : Option Addr) (c0 : Nat) (l0 : List Int) (r : Int) (w : World) (hr0 : Kd.C (Kd.int .u8) w A0 l0.length l0) (hc0 : l0.length ≤ c0) (h : sum_Of.f k l0 = some r) :
    Calls Try.prog 51 #[.slice A0 l0.length c0] w fun e w' => e = .returned (.int .u32 r) ∧ Drawn0 w w' := by
  have HR0 := Aside0.mk hr0
  have HC0 := Aside0.mk hc0
  clear hr0 hc0
  have H : (sum_Of.l0 k 4294967295 l0 (l0.length : Int) 0) = some r := h
  clear h
  have H' := Aside0.mk H
  clear H
  go_enter Try.func51, Try.ntmps51
  go_wp2
  go_loopg [3, 9] k (fun kq v3 v9 w' => ∃ (x3_1 : Int) (x9_1 : Int), v3 = .int .u32 x3_1 ∧ v9 = .int .i64 x9_1 ∧ Aside0 (sum_Of.l0 kq x3_1 l0 (l0.length : Int) x9_1 = some r) ∧ Aside0 (kq ≤ k) ∧ Drawn0 w w')
  case atStart => exact ⟨(4294967295), (0), (by first | rfl | (simp; done) | (simp [*]; done)), (by first | rfl | (simp; done) | (simp [*]; done)), H', ⟨Nat.le_refl _⟩, by repeat (first | exact Drawn0.refl _ | apply Drawn0.step)⟩
  case round =>
    clear H'
    obtain ⟨x3_1, x9_1, rfl, rfl, HA, HK1, ⟨m1, rfl⟩⟩ := hrel
    cases gk with
    | zero => exact absurd HA.out (by simp [sum_Of.l0])
    | succ k1 =>
      have H := HA.out
      clear HA
      simp only [sum_Of.l0] at H
      by_cases c2 : x9_1 < (l0.length : Int)
      · rw [if_pos c2] at H
        have c2b0 : decide (x9_1 < (l0.length : Int)) = true := decide_eq_true c2
        clear c2
        by_cases c3 : 0 ≤ x9_1
        · rw [if_pos c3] at H
          have c3b0 : decide (0 ≤ x9_1) = true := decide_eq_true c3
          clear c3
          by_cases c4 : x9_1 < (l0.length : Int)
          · rw [if_pos c4] at H
            have c4b0 : decide (x9_1 < (l0.length : Int)) = true := decide_eq_true c4
            clear c4
            have H' := Aside0.mk H
            clear H
            have p107 : 0 ≤ (x9_1 : Int) := of_decide_eq_true (by first | (with_reducible assumption) | assumption)
            have q107 : x9_1 < (l0.length : Int) := of_decide_eq_true (by first | (with_reducible assumption) | assumption)
            obtain ⟨ad107, e107, hx107_0⟩ := Kd.at_int HR0.out x9_1 p107 q107
            cases e107
            replace p107 := eq_true p107
            replace q107 := eq_true q107
            go_wp2
            go_loopg [3, 17] k1 (fun kq v3 v17 w' => ∃ (x3_2 : Int) (x17_2 : Int), v3 = .int .u32 x3_2 ∧ v17 = .int .i64 x17_2 ∧ Aside0 (sum_Of.l1 kq x3_2 l0 (l0.length : Int) x9_1 x17_2 = some r) ∧ Aside0 (kq ≤ k1) ∧ Drawn0 w w')
            case atStart => exact ⟨(Go.bits .xor .u32 x3_1 ((rd l0 x9_1) % 4294967296)), (0), (by first | rfl | (simp; done) | (simp [*]; done)), (by first | rfl | (simp; done) | (simp [*]; done)), H', ⟨Nat.le_refl _⟩, by repeat (first | exact Drawn0.refl _ | apply Drawn0.step)⟩
            case round =>
              clear H'
              try clear p1
              try clear q1
              try clear hx1
              try clear c2
              try clear c2b0
              try clear p2
              try clear c3
              try clear c3b0
              try clear c4
              try clear c4b0
              try clear hx107_0
              try clear p107
              try clear q107
              obtain ⟨x3_2, x17_2, rfl, rfl, HA, HK2, ⟨m2, rfl⟩⟩ := hrel
              cases gk with
              | zero => exact absurd HA.out (by simp [sum_Of.l1])
              | succ k2 =>
                have H := HA.out
                clear HA
                simp only [sum_Of.l1] at H
                by_cases c5 : x17_2 < 8
                · rw [if_pos c5] at H
                  have c5b0 : decide (x17_2 < 8) = true := decide_eq_true c5
                  clear c5
                  have H' := Aside0.mk H
                  clear H
                  go_wp2
                  go_roundg k2
                  case measure => have := HK1.out; have := HK2.out; omega
                  case rel => exact ⟨(Go.bits .xor .u32 (x3_2 / 2) ((2197175160 * (Go.bits .and .u32 x3_2 1)) % 4294967296)), (wrap64 (x17_2 + 1)), (by first | rfl | (simp; done) | (simp [*]; done)), (by first | rfl | (simp; done) | (simp [*]; done)), H', ⟨by have := HK1.out; have := HK2.out; omega⟩, by repeat (first | exact Drawn0.refl _ | apply Drawn0.step)⟩
                · rw [if_neg c5] at H
                  have c5b0 : decide (x17_2 < 8) = false := decide_eq_false c5
                  clear c5
                  have H' := Aside0.mk H
                  clear H
                  go_wp2
                  go_roundg k2
                  case measure => have := HK1.out; have := HK2.out; omega
                  case rel => exact ⟨(x3_2), (wrap64 (x9_1 + 1)), (by first | rfl | (simp; done) | (simp [*]; done)), (by first | rfl | (simp; done) | (simp [*]; done)), H', ⟨by have := HK1.out; have := HK2.out; omega⟩, by repeat (first | exact Drawn0.refl _ | apply Drawn0.step)⟩
          · rw [if_neg c4] at H
            exact absurd H (by simp)
        · rw [if_neg c3] at H
          exact absurd H (by simp)
      · rw [if_neg c2] at H
        have c2b0 : decide (x9_1 < (l0.length : Int)) = false := decide_eq_false c2
        clear c2
        obtain rfl := Option.some.inj H
        go_wp2
        go_ret
        exact ⟨by first | rfl | (simp; done) | (simp [*]; done), by repeat (first | exact Drawn0.refl _ | apply Drawn0.step)⟩

/-! ### region_first: function 39 -/
def region_first.f (k : Nat) (a0 : Int) (l1 : List Int) : Option (List Int) := (region_Put.f ([] : List Int) ((a0) % 4294967296)).bind fun t108 => ((region_Put.f t108 (((l1.length : Int)) % 4294967296)).bind fun t111 => ((sum_Of.f k l1).bind fun t114 => ((region_Put.f t111 t114).bind fun t115 => ((sum_Of.f k t115).bind fun t118 => ((region_Put.f t115 t118).bind fun t119 => (some t119))))))
theorem region_first.mono : ∀ a0 a1 k, LeO (region_first.f k a0 a1) (region_first.f (k + 1) a0 a1) := by
  intro a0 a1 k
  unfold region_first.f
  repeat' first
      | (with_reducible exact sum_Of.mono _ _)
      | (with_reducible exact LeO.refl _)
      | (with_reducible exact LeO.none _)
      | (with_reducible refine LeO.ite ?_ ?_)
      | (with_reducible refine LeO.bind ?_ (fun _ => ?_))
      | exact sum_Of.mono _ _
      | exact LeO.none _
      | refine LeO.ite ?_ ?_
      | refine LeO.bind ?_ (fun _ => ?_)
set_option maxHeartbeats 8000000 in
set_option maxRecDepth 100000 in
theorem region_first.calls (k : Nat) (a0 : Int) (A1 : Option Addr) (c1 : Nat) (l1 : List Int) (r : List Int) (w : World) (hr1 : Kd.C (Kd.int .u8) w A1 l1.length l1) (hc1 : l1.length ≤ c1) (h : region_first.f k a0 l1 = some r) :
    Calls Try.prog 39 #[.int .i64 a0, .slice A1 l1.length c1] w fun e w' => ∃ v0_ : Value, e = .returned (v0_) ∧ Kd.R (Kd.int .u8) 5 w' w.heap.size (fun _ => True) v0_ r ∧ Below w.heap.size w w' := by
  have HR1 := Aside0.mk hr1
  have HC1 := Aside0.mk hc1
  clear hr1 hc1
  have HB := Aside0.mk (Below.refl w.heap.size w)
  have H : ((region_Put.f ([] : List Int) ((a0) % 4294967296)).bind fun t108 => ((region_Put.f t108 (((l1.length : Int)) % 4294967296)).bind fun t111 => ((sum_Of.f k l1).bind fun t114 => ((region_Put.f t111 t114).bind fun t115 => ((sum_Of.f k t115).bind fun t118 => ((region_Put.f t115 t118).bind fun t119 => (some t119))))))) = some r := h
  clear h
  replace H := Option.bind_eq_some_iff.mp H
  obtain ⟨t108, A30, H⟩ := H
  replace H : ((region_Put.f t108 (((l1.length : Int)) % 4294967296)).bind fun t111 => ((sum_Of.f k l1).bind fun t114 => ((region_Put.f t111 t114).bind fun t115 => ((sum_Of.f k t115).bind fun t118 => ((region_Put.f t115 t118).bind fun t119 => (some t119)))))) = some r := H
  have A3 := Aside0.mk A30
  clear A30
  replace H := Option.bind_eq_some_iff.mp H
  obtain ⟨t111, A40, H⟩ := H
  replace H : ((sum_Of.f k l1).bind fun t114 => ((region_Put.f t111 t114).bind fun t115 => ((sum_Of.f k t115).bind fun t118 => ((region_Put.f t115 t118).bind fun t119 => (some t119))))) = some r := H
  have A4 := Aside0.mk A40
  clear A40
  replace H := Option.bind_eq_some_iff.mp H
  obtain ⟨t114, A50, H⟩ := H
  replace H : ((region_Put.f t111 t114).bind fun t115 => ((sum_Of.f k t115).bind fun t118 => ((region_Put.f t115 t118).bind fun t119 => (some t119)))) = some r := H
  have A5 := Aside0.mk A50
  clear A50
  replace H := Option.bind_eq_some_iff.mp H
  obtain ⟨t115, A60, H⟩ := H
  replace H : ((sum_Of.f k t115).bind fun t118 => ((region_Put.f t115 t118).bind fun t119 => (some t119))) = some r := H
  have A6 := Aside0.mk A60
  clear A60
  replace H := Option.bind_eq_some_iff.mp H
  obtain ⟨t118, A70, H⟩ := H
  replace H : ((region_Put.f t115 t118).bind fun t119 => (some t119)) = some r := H
  have A7 := Aside0.mk A70
  clear A70
  replace H := Option.bind_eq_some_iff.mp H
  obtain ⟨t119, A80, H⟩ := H
  replace H : (some t119) = some r := H
  have A8 := Aside0.mk A80
  clear A80
  obtain rfl := Option.some.inj H
  go_enter Try.func39, Try.ntmps39
  go_wp2_with (first | ((with_reducible refine gate_callee (f := 50) rfl ?_); refine goesL_ (some 8) rfl rfl Try.func50 (by kernel_rfl) rfl #[.slice none 0 0, .int .u32 ((a0) % 4294967296)] rfl (by (try simp only [List.map_toArray, List.map_cons, List.map_nil]); first | done | rfl | (simp only [List.length_drop, List.length_take]; rfl)) ?_; (refine (region_Put.calls (fun k_ => some k_ = (.slice none 0 0 : Value).ownBlock) (.slice none 0 0) ([] : List Int) ((a0) % 4294967296) t108 w _ ?side1 ?side2 A3.out).mono ?_); (case side1 => repeat (first | (with_reducible first | exact HB.out | apply below_alloc | apply pw_below_drewN | apply below_drew1) | exact HB.out)); (case side2 => exact Kd.R_nil _ _ _ _ _); rintro e w9 ⟨v109, rfl, ho0, hb, hkp⟩; refine ⟨_, rfl, ?_⟩; have n0_ := Aside0.mk (Kd.R_mono (ok' := fun k_ => True) ho0 (fun k_ hk_ => trivial)); have n1_ := Aside0.mk (hb); clear HB; have HO110 := n0_; have HB := n1_; clear n0_ n1_; (try clear hb); (try clear hkp); (try clear ho0); obtain ⟨Ao10, co10, eo10⟩ := Kd.R_slice HO110.out; subst eo10) | ((with_reducible refine gate_callee (f := 50) rfl ?_); refine goesL_ (some 12) rfl rfl Try.func50 (by kernel_rfl) rfl #[.slice Ao10 t108.length co10, .int .u32 (((l1.length : Int)) % 4294967296)] rfl (by (try simp only [List.map_toArray, List.map_cons, List.map_nil]); first | done | rfl | (simp only [List.length_drop, List.length_take]; rfl)) ?_; (with_reducible refine (region_Put.calls (fun k_ => some k_ = (.slice Ao10 t108.length co10 : Value).ownBlock) (.slice Ao10 t108.length co10) t108 (((l1.length : Int)) % 4294967296) t111 w _ ?side1 ?side2 A4.out).mono ?_); (case side1 => repeat (first | (with_reducible first | exact HB.out | apply below_alloc | apply pw_below_drewN | apply below_drew1) | exact HB.out)); (case side2 => exact Kd.R_tight rfl HO110.out); rintro e w11 ⟨v112, rfl, ho0, hb, hkp⟩; refine ⟨_, rfl, ?_⟩; have n0_ := Aside0.mk (Kd.R_mono (ok' := fun k_ => True) ho0 (fun k_ hk_ => trivial)); have n1_ := Aside0.mk (hb); clear HB; clear HO110; have HO113 := n0_; have HB := n1_; clear n0_ n1_; (try clear hb); (try clear hkp); (try clear ho0)) | ((with_reducible refine gate_callee (f := 51) rfl ?_); refine goesL_ (some 14) rfl rfl Try.func51 (by kernel_rfl) rfl #[.slice A1 l1.length c1] rfl (by (try simp only [List.map_toArray, List.map_cons, List.map_nil]); first | done | rfl | (simp only [List.length_drop, List.length_take]; rfl)) ?_; (with_reducible refine (sum_Of.calls k _ _ l1 t114 _ ?side1 ?side2 A5.out).mono ?_); (case side1 => repeat (first | exact (Kd.C_below HR1.out HB.out) | (with_reducible refine Kd.C_alloc ?_ _) | (with_reducible refine Kd.C_drewN ?_ _) | (with_reducible refine Kd.C_drew ?_))); (case side2 => exact HC1.out); rintro e w' ⟨rfl, ⟨nd, rfl⟩⟩; refine ⟨_, rfl, ?_⟩; obtain ⟨Ao12, co12, eo12⟩ := Kd.R_slice HO113.out; subst eo12) | ((with_reducible refine gate_callee (f := 50) rfl ?_); refine goesL_ (some 15) rfl rfl Try.func50 (by kernel_rfl) rfl #[.slice Ao12 t111.length co12, .int .u32 t114] rfl (by (try simp only [List.map_toArray, List.map_cons, List.map_nil]); first | done | rfl | (simp only [List.length_drop, List.length_take]; rfl)) ?_; (with_reducible refine (region_Put.calls (fun k_ => some k_ = (.slice Ao12 t111.length co12 : Value).ownBlock) (.slice Ao12 t111.length co12) t111 t114 t115 w _ ?side1 ?side2 A6.out).mono ?_); (case side1 => repeat (first | (with_reducible first | exact HB.out | apply below_alloc | apply pw_below_drewN | apply below_drew1) | exact HB.out)); (case side2 => exact Kd.R_tight rfl HO113.out); rintro e w13 ⟨v116, rfl, ho0, hb, hkp⟩; refine ⟨_, rfl, ?_⟩; have n0_ := Aside0.mk (Kd.R_mono (ok' := fun k_ => True) ho0 (fun k_ hk_ => trivial)); have n1_ := Aside0.mk (hb); clear HB; clear HO113; have HO117 := n0_; have HB := n1_; clear n0_ n1_; (try clear hb); (try clear hkp); (try clear ho0); obtain ⟨Ao14, co14, eo14⟩ := Kd.R_slice HO117.out; subst eo14) | ((with_reducible refine gate_callee (f := 51) rfl ?_); refine goesL_ (some 18) rfl rfl Try.func51 (by kernel_rfl) rfl #[.slice Ao14 t115.length co14] rfl (by (try simp only [List.map_toArray, List.map_cons, List.map_nil]); first | done | rfl | (simp only [List.length_drop, List.length_take]; rfl)) ?_; (with_reducible refine (sum_Of.calls k _ _ t115 t118 _ ?side1 ?side2 A7.out).mono ?_); (case side1 => repeat (first | exact (Kd.R_reads' HO117.out).2.2 | (with_reducible refine Kd.C_alloc ?_ _) | (with_reducible refine Kd.C_drewN ?_ _) | (with_reducible refine Kd.C_drew ?_))); (case side2 => exact (Kd.R_reads' HO117.out).2.1); rintro e w' ⟨rfl, ⟨nd, rfl⟩⟩; refine ⟨_, rfl, ?_⟩) | ((with_reducible refine gate_callee (f := 50) rfl ?_); refine goesL_ (some 19) rfl rfl Try.func50 (by kernel_rfl) rfl #[.slice Ao14 t115.length co14, .int .u32 t118] rfl (by (try simp only [List.map_toArray, List.map_cons, List.map_nil]); first | done | rfl | (simp only [List.length_drop, List.length_take]; rfl)) ?_; (with_reducible refine (region_Put.calls (fun k_ => some k_ = (.slice Ao14 t115.length co14 : Value).ownBlock) (.slice Ao14 t115.length co14) t115 t118 t119 w _ ?side1 ?side2 A8.out).mono ?_); (case side1 => repeat (first | (with_reducible first | exact HB.out | apply below_alloc | apply pw_below_drewN | apply below_drew1) | exact HB.out)); (case side2 => exact Kd.R_tight rfl HO117.out); rintro e w15 ⟨v120, rfl, ho0, hb, hkp⟩; refine ⟨_, rfl, ?_⟩; have n0_ := Aside0.mk (Kd.R_mono (ok' := fun k_ => True) ho0 (fun k_ hk_ => trivial)); have n1_ := Aside0.mk (hb); clear HB; clear HO117; have HO121 := n0_; have HB := n1_; clear n0_ n1_; (try clear hb); (try clear hkp); (try clear ho0)))
  go_ret
  exact ⟨_, by first | rfl | (simp [errW_none, errW_some] <;> rfl) | (simp [*, errW_none, errW_some] <;> rfl), by (with_reducible repeat (first | apply Kd.R_alloc | apply Kd.R_drewN | apply Kd.R_drew)); exact HO121.out, by repeat (first | (with_reducible first | exact HB.out | apply below_alloc | apply pw_below_drewN | apply below_drew1) | exact HB.out)⟩

/-! ### region_Lay: function 25 -/
mutual
def region_Lay.j0 : Nat → Int → Int → Int → List Int → Bool → Disk.DiskM → Option (Int × Int × Disk.DiskM)
  | 0, _, _, _, _, _, _ => none
  | k + 1, x1, x2, x3, x4, x33, x1000 => if x33 = true then (some (0, 1, x1000)) else ((region_Size.f (x4.length : Int)).bind fun t122 => ((sector_Disk_Len.f x1000).bind fun bt123 => (if t122 > (wrap64 ((mn x2 bt123.1) - x1)) then (some (0, 3, bt123.2)) else (region_Lay.l0 k x1 x3 x4 t122 1 bt123.2))))
def region_Lay.l0 : Nat → Int → Int → List Int → Int → Int → Disk.DiskM → Option (Int × Int × Disk.DiskM)
  | 0, _, _, _, _, _, _ => none
  | k + 1, x1, x3, x4, x12, x13, x1000 => if x13 < x12 then (if 0 ≤ (wrap64 ((wrap64 (x13 - 1)) * 64)) then (if (wrap64 ((wrap64 (x13 - 1)) * 64)) ≤ (mn (wrap64 (x13 * 64)) (x4.length : Int)) then (if (mn (wrap64 (x13 * 64)) (x4.length : Int)) ≤ (x4.length : Int) then ((sector_Disk_Write.f x1000 (wrap64 (x1 + x13)) ((x4.take ((mn (wrap64 (x13 * 64)) (x4.length : Int)) : Int).toNat).drop ((wrap64 ((wrap64 (x13 - 1)) * 64)) : Int).toNat)).bind fun bt129 => (if bt129.1 = 0 then (region_Lay.l0 k x1 x3 x4 x12 (wrap64 (x13 + 1)) bt129.2) else (some (0, bt129.1, bt129.2)))) else (none)) else (none)) else (none)) else ((sector_Disk_Flush.f x1000).bind fun bt131 => (if bt131.1 = 0 then ((region_first.f k x3 x4).bind fun t133 => ((sector_Disk_Write.f bt131.2 x1 t133).bind fun bt136 => (if bt136.1 = 0 then ((sector_Disk_Flush.f bt136.2).bind fun bt138 => (if bt138.1 = 0 then (some (wrap64 (x1 + x12), 0, bt138.2)) else (some (0, bt138.1, bt138.2)))) else (some (0, bt136.1, bt136.2))))) else (some (0, bt131.1, bt131.2))))
end
def region_Lay.f (k : Nat) (s0_0 : Disk.DiskM) (a1 : Int) (a2 : Int) (a3 : Int) (l4 : List Int) : Option (Int × Int × Disk.DiskM) := if (l4.length : Int) > 8192 then (region_Lay.j0 k a1 a2 a3 l4 true s0_0) else (if a3 < 0 then (region_Lay.j0 k a1 a2 a3 l4 true s0_0) else (if a3 > 2147483647 then (region_Lay.j0 k a1 a2 a3 l4 true s0_0) else (region_Lay.j0 k a1 a2 a3 l4 (decide (a1 < 0)) s0_0)))
theorem region_Lay.mono_l : ∀ k, (∀ y0 y1 y2 y3 y4 y5, LeO (region_Lay.j0 k y0 y1 y2 y3 y4 y5) (region_Lay.j0 (k + 1) y0 y1 y2 y3 y4 y5)) ∧ (∀ y0 y1 y2 y3 y4 y5, LeO (region_Lay.l0 k y0 y1 y2 y3 y4 y5) (region_Lay.l0 (k + 1) y0 y1 y2 y3 y4 y5))
  | 0 => ⟨fun _ _ _ _ _ _ r h => by simp [region_Lay.j0] at h, fun _ _ _ _ _ _ r h => by simp [region_Lay.l0] at h⟩
  | k + 1 => by
    obtain ⟨ih0, ih1⟩ := region_Lay.mono_l k
    refine ⟨?_, ?_⟩
    · intro y0 y1 y2 y3 y4 y5
      unfold region_Lay.j0
      repeat' first
      | (with_reducible exact ih0 _ _ _ _ _ _)
      | (with_reducible exact ih1 _ _ _ _ _ _)
      | (with_reducible exact region_first.mono _ _ _)
      | (with_reducible exact LeO.refl _)
      | (with_reducible exact LeO.none _)
      | (with_reducible refine LeO.ite ?_ ?_)
      | (with_reducible refine LeO.bind ?_ (fun _ => ?_))
      | exact ih0 _ _ _ _ _ _
      | exact ih1 _ _ _ _ _ _
      | exact region_first.mono _ _ _
      | exact LeO.none _
      | refine LeO.ite ?_ ?_
      | refine LeO.bind ?_ (fun _ => ?_)
    · intro y0 y1 y2 y3 y4 y5
      unfold region_Lay.l0
      repeat' first
      | (with_reducible exact ih0 _ _ _ _ _ _)
      | (with_reducible exact ih1 _ _ _ _ _ _)
      | (with_reducible exact region_first.mono _ _ _)
      | (with_reducible exact LeO.refl _)
      | (with_reducible exact LeO.none _)
      | (with_reducible refine LeO.ite ?_ ?_)
      | (with_reducible refine LeO.bind ?_ (fun _ => ?_))
      | exact ih0 _ _ _ _ _ _
      | exact ih1 _ _ _ _ _ _
      | exact region_first.mono _ _ _
      | exact LeO.none _
      | refine LeO.ite ?_ ?_
      | refine LeO.bind ?_ (fun _ => ?_)
theorem region_Lay.mono : ∀ a0 a1 a2 a3 a4 k, LeO (region_Lay.f k a0 a1 a2 a3 a4) (region_Lay.f (k + 1) a0 a1 a2 a3 a4) := by
  intro a0 a1 a2 a3 a4 k
  obtain ⟨ih0, ih1⟩ := region_Lay.mono_l k
  unfold region_Lay.f
  repeat' first
      | (with_reducible exact ih0 _ _ _ _ _ _)
      | (with_reducible exact ih1 _ _ _ _ _ _)
      | (with_reducible exact region_first.mono _ _ _)
      | (with_reducible exact LeO.refl _)
      | (with_reducible exact LeO.none _)
      | (with_reducible refine LeO.ite ?_ ?_)
      | (with_reducible refine LeO.bind ?_ (fun _ => ?_))
      | exact ih0 _ _ _ _ _ _
      | exact ih1 _ _ _ _ _ _
      | exact region_first.mono _ _ _
      | exact LeO.none _
      | refine LeO.ite ?_ ?_
      | refine LeO.bind ?_ (fun _ => ?_)
set_option maxHeartbeats 8000000 in
set_option maxRecDepth 100000 in
theorem region_Lay.calls (k : Nat) (g : Nat) (s0_0 : Disk.DiskM) (a1 : Int) (a2 : Int) (a3 : Int) (A4 : Option Addr) (c4 : Nat) (l4 : List Int) (r1 : Int) (r2 : Int) (r3 : Disk.DiskM) (w0 w : World) (hI : IsS67 w0 w g s0_0) (hB : Below w0.heap.size w0 w) (hr4 : ∀ W_, Go.Proofs.Ytjaibpphlbddoaa.Opq.KeepO ts67 w0.heap.size w W_ → Kd.C (Kd.int .u8) W_ A4 l4.length l4) (hc4 : l4.length ≤ c4) (h : region_Lay.f k s0_0 a1 a2 a3 l4 = some (r1, r2, r3)) :
    Calls Try.prog 25 #[.pointer (some ⟨g, 0, none⟩), .int .i64 a1, .int .i64 a2, .int .i64 a3, .slice A4 l4.length c4] w fun e w' => e = .returned (.tuple #[.int .i64 r1, .int .i64 r2]) ∧ IsS67 w0 w' g r3 ∧ Below w0.heap.size w0 w' ∧ Go.Proofs.Ytjaibpphlbddoaa.Opq.KeepO ts67 w0.heap.size w w' := by
  have HR4 := Aside0.mk hr4
  have HC4 := Aside0.mk hc4
  clear hr4 hc4
  have HI0 := Aside0.mk hI
  have HK := Aside0.mk (Go.Proofs.Ytjaibpphlbddoaa.Opq.KeepO.refl ts67 w0.heap.size w)
  have HL := Aside0.mk hB.size
  clear hI
  have HW0 := Aside0.mk hB.size
  have HB := Aside0.mk hB
  clear hB
  have H : (if (l4.length : Int) > 8192 then (region_Lay.j0 k a1 a2 a3 l4 true s0_0) else (if a3 < 0 then (region_Lay.j0 k a1 a2 a3 l4 true s0_0) else (if a3 > 2147483647 then (region_Lay.j0 k a1 a2 a3 l4 true s0_0) else (region_Lay.j0 k a1 a2 a3 l4 (decide (a1 < 0)) s0_0)))) = some (r1, r2, r3) := h
  clear h
  have HC6 := Aside0.mk H
  clear H
  go_enter Try.func25, Try.ntmps25
  go_upto_region 1 with (fail)
  go_cut [33] (fun v33 wc => ∃ (kq : Nat) (x33_5 : Bool), v33 = .bool x33_5 ∧ Aside0 (region_Lay.j0 kq a1 a2 a3 l4 x33_5 s0_0 = some (r1, r2, r3)) ∧ Aside0 (kq ≤ k) ∧ Aside0 (IsS67 w0 wc g s0_0) ∧ Aside0 (Go.Proofs.Ytjaibpphlbddoaa.Opq.KeepO ts67 w0.heap.size w wc) ∧ Aside0 (Below w0.heap.size w0 wc))
  case first =>
    have H := HC6.out
    clear HC6
    by_cases c7 : (l4.length : Int) > 8192
    · rw [if_pos c7] at H
      have c7b0 : decide (8192 < (l4.length : Int)) = true := decide_eq_true c7
      have c7b1 : decide (8192 < l4.length) = true := decide_eq_true (by omega)
      clear c7
      (first | rw [c7b0] | (simp only [i64_w, i32_w]; rw [c7b0]) | skip)
      have H' := Aside0.mk H
      clear H
      go_wp2
      go_meet
      case rel => exact ⟨_, (true), (by first | rfl | (simp; done) | (simp [*]; done)), H', ⟨by first | omega | exact Nat.le_refl _⟩, ⟨by repeat (first | (with_reducible first | exact HI0.out | apply IsS67.alloc | apply IsS67.drewN | apply IsS67.drew) | exact HI0.out)⟩, ⟨by repeat (first | (with_reducible first | exact HK.out | apply Go.Proofs.Ytjaibpphlbddoaa.Opq.KeepO.drewN | apply Go.Proofs.Ytjaibpphlbddoaa.Opq.KeepO.drew | apply Go.Proofs.Ytjaibpphlbddoaa.Opq.KeepO.alloc) | exact HK.out)⟩, ⟨by repeat (first | (with_reducible first | exact HB.out | apply below_alloc | apply pw_below_drewN | apply below_drew1 | refine below_set ?_ (IsS67.ge HI0.out)) | exact HB.out)⟩⟩
    · rw [if_neg c7] at H
      have c7b0 : decide (8192 < (l4.length : Int)) = false := decide_eq_false c7
      have c7b1 : decide (8192 < l4.length) = false := decide_eq_false (by omega)
      clear c7
      (first | rw [c7b0] | (simp only [i64_w, i32_w]; rw [c7b0]) | skip)
      by_cases c8 : a3 < 0
      · rw [if_pos c8] at H
        have c8b0 : decide (a3 < 0) = true := decide_eq_true c8
        clear c8
        have H' := Aside0.mk H
        clear H
        go_wp2
        go_meet
        case rel => exact ⟨_, (true), (by first | rfl | (simp; done) | (simp [*]; done)), H', ⟨by first | omega | exact Nat.le_refl _⟩, ⟨by repeat (first | (with_reducible first | exact HI0.out | apply IsS67.alloc | apply IsS67.drewN | apply IsS67.drew) | exact HI0.out)⟩, ⟨by repeat (first | (with_reducible first | exact HK.out | apply Go.Proofs.Ytjaibpphlbddoaa.Opq.KeepO.drewN | apply Go.Proofs.Ytjaibpphlbddoaa.Opq.KeepO.drew | apply Go.Proofs.Ytjaibpphlbddoaa.Opq.KeepO.alloc) | exact HK.out)⟩, ⟨by repeat (first | (with_reducible first | exact HB.out | apply below_alloc | apply pw_below_drewN | apply below_drew1 | refine below_set ?_ (IsS67.ge HI0.out)) | exact HB.out)⟩⟩
      · rw [if_neg c8] at H
        have c8b0 : decide (a3 < 0) = false := decide_eq_false c8
        clear c8
        by_cases c9 : a3 > 2147483647
        · rw [if_pos c9] at H
          have c9b0 : decide (2147483647 < a3) = true := decide_eq_true c9
          clear c9
          have H' := Aside0.mk H
          clear H
          go_wp2
          go_meet
          case rel => exact ⟨_, (true), (by first | rfl | (simp; done) | (simp [*]; done)), H', ⟨by first | omega | exact Nat.le_refl _⟩, ⟨by repeat (first | (with_reducible first | exact HI0.out | apply IsS67.alloc | apply IsS67.drewN | apply IsS67.drew) | exact HI0.out)⟩, ⟨by repeat (first | (with_reducible first | exact HK.out | apply Go.Proofs.Ytjaibpphlbddoaa.Opq.KeepO.drewN | apply Go.Proofs.Ytjaibpphlbddoaa.Opq.KeepO.drew | apply Go.Proofs.Ytjaibpphlbddoaa.Opq.KeepO.alloc) | exact HK.out)⟩, ⟨by repeat (first | (with_reducible first | exact HB.out | apply below_alloc | apply pw_below_drewN | apply below_drew1 | refine below_set ?_ (IsS67.ge HI0.out)) | exact HB.out)⟩⟩
        · rw [if_neg c9] at H
          have c9b0 : decide (2147483647 < a3) = false := decide_eq_false c9
          clear c9
          have H' := Aside0.mk H
          clear H
          go_wp2
          go_meet
          case rel => exact ⟨_, (decide (a1 < 0)), (by first | rfl | (simp; done) | (simp [*]; done)), H', ⟨by first | omega | exact Nat.le_refl _⟩, ⟨by repeat (first | (with_reducible first | exact HI0.out | apply IsS67.alloc | apply IsS67.drewN | apply IsS67.drew) | exact HI0.out)⟩, ⟨by repeat (first | (with_reducible first | exact HK.out | apply Go.Proofs.Ytjaibpphlbddoaa.Opq.KeepO.drewN | apply Go.Proofs.Ytjaibpphlbddoaa.Opq.KeepO.drew | apply Go.Proofs.Ytjaibpphlbddoaa.Opq.KeepO.alloc) | exact HK.out)⟩, ⟨by repeat (first | (with_reducible first | exact HB.out | apply below_alloc | apply pw_below_drewN | apply below_drew1 | refine below_set ?_ (IsS67.ge HI0.out)) | exact HB.out)⟩⟩
  case rest =>
    clear HC6
    try clear c2
    try clear p2
    try clear c4
    try clear c7
    try clear c7b0
    try clear c7b1
    try clear c8
    try clear c8b0
    try clear c9
    try clear c9b0
    obtain ⟨kq, x33_5, rfl, HA, HJ5, HI0, HK, HB⟩ := hcut
    cases kq with
    | zero => exact absurd HA.out (by simp [region_Lay.j0])
    | succ kj5 =>
      have H := HA.out
      clear HA
      simp only [region_Lay.j0] at H
      by_cases c10 : x33_5 = true
      · subst c10
        have H1 : (some (0, 1, s0_0)) = some (r1, r2, r3) := by rw [if_pos rfl] at H; exact H
        clear H
        have H := H1
        clear H1
        simp only [Option.some.injEq, Prod.mk.injEq] at H
        obtain ⟨rfl, rfl, rfl⟩ := H
        go_wp2
        go_ret2
        exact ⟨by first | rfl | (simp [errW_none, errW_some] <;> rfl) | (simp [*, errW_none, errW_some] <;> rfl), by repeat (first | (with_reducible first | exact HI0.out | apply IsS67.alloc | apply IsS67.drewN | apply IsS67.drew) | exact HI0.out), by repeat (first | (with_reducible first | exact HB.out | apply below_alloc | apply pw_below_drewN | apply below_drew1 | refine below_set ?_ (IsS67.ge HI0.out)) | exact HB.out), by repeat (first | (with_reducible first | exact HK.out | apply Go.Proofs.Ytjaibpphlbddoaa.Opq.KeepO.drewN | apply Go.Proofs.Ytjaibpphlbddoaa.Opq.KeepO.drew | apply Go.Proofs.Ytjaibpphlbddoaa.Opq.KeepO.alloc) | exact HK.out)⟩
      · replace c10 := Bool.eq_false_iff.mpr c10
        subst c10
        have H1 : ((region_Size.f (l4.length : Int)).bind fun t122 => ((sector_Disk_Len.f s0_0).bind fun bt123 => (if t122 > (wrap64 ((mn a2 bt123.1) - a1)) then (some (0, 3, bt123.2)) else (region_Lay.l0 kj5 a1 a3 l4 t122 1 bt123.2)))) = some (r1, r2, r3) := by rw [if_neg (show ¬ (false = true) by decide)] at H; exact H
        clear H
        have H := H1
        clear H1
        replace H := Option.bind_eq_some_iff.mp H
        obtain ⟨t122, A110, H⟩ := H
        replace H : ((sector_Disk_Len.f s0_0).bind fun bt123 => (if t122 > (wrap64 ((mn a2 bt123.1) - a1)) then (some (0, 3, bt123.2)) else (region_Lay.l0 kj5 a1 a3 l4 t122 1 bt123.2))) = some (r1, r2, r3) := H
        have A11 := Aside0.mk A110
        clear A110
        replace H := Option.bind_eq_some_iff.mp H
        obtain ⟨⟨t123, t124⟩, A120, H⟩ := H
        replace H : (if t122 > (wrap64 ((mn a2 t123) - a1)) then (some (0, 3, t124)) else (region_Lay.l0 kj5 a1 a3 l4 t122 1 t124)) = some (r1, r2, r3) := H
        have A12 := Aside0.mk A120
        clear A120
        obtain ⟨ji13, hji13⟩ : ∃ j_ : Int, (mn a2 t123) = j_ := ⟨_, rfl⟩
        replace H : (if t122 > (wrap64 ((ji13) - a1)) then (some (0, 3, t124)) else (region_Lay.l0 kj5 a1 a3 l4 t122 1 t124)) = some (r1, r2, r3) := by first | (rw [hji13] at H; exact H) | (simp only [hji13] at H ⊢; exact H)
        (try rw [hji13] at A11)
        (try rw [hji13] at A12)
        have hji13_ : (if t123 < a2 then t123 else a2) = ji13 := hji13
        by_cases c14 : t122 > (wrap64 ((ji13) - a1))
        · rw [if_pos c14] at H
          have c14b0 : decide ((wrap64 ((ji13) - a1)) < t122) = true := decide_eq_true c14
          clear c14
          simp only [Option.some.injEq, Prod.mk.injEq] at H
          obtain ⟨rfl, rfl, rfl⟩ := H
          go_wp2_with (first | ((with_reducible refine gate_callee (f := 38) rfl ?_); refine goesL_ (some 36) rfl rfl Try.func38 (by kernel_rfl) rfl #[.int .i64 (l4.length : Int)] rfl (by (try simp only [List.map_toArray, List.map_cons, List.map_nil]); first | done | rfl | (simp only [List.length_drop, List.length_take]; rfl)) ?_; (with_reducible refine (region_Size.calls (l4.length : Int) t122 _ A11.out).mono ?_); rintro e w15 ⟨rfl, hb⟩; refine ⟨_, rfl, ?_⟩; have n0_ := Aside0.mk (IsS67.below (by repeat (first | (with_reducible first | exact HI0.out | apply IsS67.alloc | apply IsS67.drewN | apply IsS67.drew) | exact HI0.out)) hb); have n1_ := Aside0.mk (Go.Proofs.Ytjaibpphlbddoaa.Opq.KeepO.trans (by repeat (first | (with_reducible first | exact HK.out | apply Go.Proofs.Ytjaibpphlbddoaa.Opq.KeepO.drewN | apply Go.Proofs.Ytjaibpphlbddoaa.Opq.KeepO.drew | apply Go.Proofs.Ytjaibpphlbddoaa.Opq.KeepO.alloc) | exact HK.out)) (Go.Proofs.Ytjaibpphlbddoaa.Opq.KeepO.of_below hb)); have n2_ := Aside0.mk (below_step (by repeat (first | (with_reducible first | exact HB.out | apply below_alloc | apply pw_below_drewN | apply below_drew1 | refine below_set ?_ (IsS67.ge HI0.out)) | exact HB.out)) hb); clear HI0; clear HK; clear HB; have HI0 := n0_; have HK := n1_; have HB := n2_; clear n0_ n1_ n2_; (try clear hb); (try clear hb2); (try clear hk); (try clear hi)) | ((with_reducible refine gate_callee (f := 23) rfl ?_); refine goesL_ (some 40) rfl rfl Try.func23 (by kernel_rfl) rfl #[.pointer (some ⟨g, 0, none⟩)] rfl (by (try simp only [List.map_toArray, List.map_cons, List.map_nil]); first | done | rfl | (simp only [List.length_drop, List.length_take]; rfl)) ?_; (with_reducible refine (sector_Disk_Len.calls g s0_0 t123 t124 w0 _ ?side1 ?side2 A12.out).mono ?_); (case side1 => repeat (first | (with_reducible first | exact HI0.out | apply IsS67.alloc | apply IsS67.drewN | apply IsS67.drew) | exact HI0.out)); (case side2 => repeat (first | (with_reducible first | exact HB.out | apply below_alloc | apply pw_below_drewN | apply below_drew1 | refine below_set ?_ (IsS67.ge HI0.out)) | exact HB.out)); rintro e w16 ⟨rfl, hi, hb, hk⟩; refine ⟨_, rfl, ?_⟩; have n0_ := Aside0.mk (Go.Proofs.Ytjaibpphlbddoaa.Opq.KeepO.trans (by repeat (first | (with_reducible first | exact HK.out | apply Go.Proofs.Ytjaibpphlbddoaa.Opq.KeepO.drewN | apply Go.Proofs.Ytjaibpphlbddoaa.Opq.KeepO.drew | apply Go.Proofs.Ytjaibpphlbddoaa.Opq.KeepO.alloc) | exact HK.out)) hk); have n1_ := Aside0.mk (hb); have n2_ := Aside0.mk (hi); clear HK; clear HB; clear HI0; have HK := n0_; have HB := n1_; have HI0 := n2_; clear n0_ n1_ n2_; (try clear hb); (try clear hb2); (try clear hk); (try clear hi)))
          go_ret2
          exact ⟨by first | rfl | (simp [errW_none, errW_some] <;> rfl) | (simp only [← hji13]; first | rfl | (simp [errW_none, errW_some] <;> rfl)) | (simp [*, errW_none, errW_some] <;> rfl), by repeat (first | (with_reducible first | exact HI0.out | apply IsS67.alloc | apply IsS67.drewN | apply IsS67.drew) | exact HI0.out), by repeat (first | (with_reducible first | exact HB.out | apply below_alloc | apply pw_below_drewN | apply below_drew1 | refine below_set ?_ (IsS67.ge HI0.out)) | exact HB.out), by repeat (first | (with_reducible first | exact HK.out | apply Go.Proofs.Ytjaibpphlbddoaa.Opq.KeepO.drewN | apply Go.Proofs.Ytjaibpphlbddoaa.Opq.KeepO.drew | apply Go.Proofs.Ytjaibpphlbddoaa.Opq.KeepO.alloc) | exact HK.out)⟩
        · rw [if_neg c14] at H
          have c14b0 : decide ((wrap64 ((ji13) - a1)) < t122) = false := decide_eq_false c14
          clear c14
          have H' := Aside0.mk H
          clear H
          go_wp2_with (first | ((with_reducible refine gate_callee (f := 38) rfl ?_); refine goesL_ (some 36) rfl rfl Try.func38 (by kernel_rfl) rfl #[.int .i64 (l4.length : Int)] rfl (by (try simp only [List.map_toArray, List.map_cons, List.map_nil]); first | done | rfl | (simp only [List.length_drop, List.length_take]; rfl)) ?_; (with_reducible refine (region_Size.calls (l4.length : Int) t122 _ A11.out).mono ?_); rintro e w17 ⟨rfl, hb⟩; refine ⟨_, rfl, ?_⟩; have n0_ := Aside0.mk (IsS67.below (by repeat (first | (with_reducible first | exact HI0.out | apply IsS67.alloc | apply IsS67.drewN | apply IsS67.drew) | exact HI0.out)) hb); have n1_ := Aside0.mk (Go.Proofs.Ytjaibpphlbddoaa.Opq.KeepO.trans (by repeat (first | (with_reducible first | exact HK.out | apply Go.Proofs.Ytjaibpphlbddoaa.Opq.KeepO.drewN | apply Go.Proofs.Ytjaibpphlbddoaa.Opq.KeepO.drew | apply Go.Proofs.Ytjaibpphlbddoaa.Opq.KeepO.alloc) | exact HK.out)) (Go.Proofs.Ytjaibpphlbddoaa.Opq.KeepO.of_below hb)); have n2_ := Aside0.mk (below_step (by repeat (first | (with_reducible first | exact HB.out | apply below_alloc | apply pw_below_drewN | apply below_drew1 | refine below_set ?_ (IsS67.ge HI0.out)) | exact HB.out)) hb); clear HI0; clear HK; clear HB; have HI0 := n0_; have HK := n1_; have HB := n2_; clear n0_ n1_ n2_; (try clear hb); (try clear hb2); (try clear hk); (try clear hi)) | ((with_reducible refine gate_callee (f := 23) rfl ?_); refine goesL_ (some 40) rfl rfl Try.func23 (by kernel_rfl) rfl #[.pointer (some ⟨g, 0, none⟩)] rfl (by (try simp only [List.map_toArray, List.map_cons, List.map_nil]); first | done | rfl | (simp only [List.length_drop, List.length_take]; rfl)) ?_; (with_reducible refine (sector_Disk_Len.calls g s0_0 t123 t124 w0 _ ?side1 ?side2 A12.out).mono ?_); (case side1 => repeat (first | (with_reducible first | exact HI0.out | apply IsS67.alloc | apply IsS67.drewN | apply IsS67.drew) | exact HI0.out)); (case side2 => repeat (first | (with_reducible first | exact HB.out | apply below_alloc | apply pw_below_drewN | apply below_drew1 | refine below_set ?_ (IsS67.ge HI0.out)) | exact HB.out)); rintro e w18 ⟨rfl, hi, hb, hk⟩; refine ⟨_, rfl, ?_⟩; have n0_ := Aside0.mk (Go.Proofs.Ytjaibpphlbddoaa.Opq.KeepO.trans (by repeat (first | (with_reducible first | exact HK.out | apply Go.Proofs.Ytjaibpphlbddoaa.Opq.KeepO.drewN | apply Go.Proofs.Ytjaibpphlbddoaa.Opq.KeepO.drew | apply Go.Proofs.Ytjaibpphlbddoaa.Opq.KeepO.alloc) | exact HK.out)) hk); have n1_ := Aside0.mk (hb); have n2_ := Aside0.mk (hi); clear HK; clear HB; clear HI0; have HK := n0_; have HB := n1_; have HI0 := n2_; clear n0_ n1_ n2_; (try clear hb); (try clear hb2); (try clear hk); (try clear hi)))
          go_loopg [13] kj5 (fun kq v13 w' => ∃ (x13_2 : Int) (x1000_2 : Disk.DiskM), v13 = .int .i64 x13_2 ∧ Aside0 (region_Lay.l0 kq a1 a3 l4 t122 x13_2 x1000_2 = some (r1, r2, r3)) ∧ Aside0 (kq ≤ kj5) ∧ Aside0 (IsS67 w0 w' g x1000_2) ∧ Aside0 (Go.Proofs.Ytjaibpphlbddoaa.Opq.KeepO ts67 w0.heap.size w w') ∧ Aside0 (Below w0.heap.size w0 w'))
          case atStart => exact ⟨(1), (t124), (by first | rfl | (simp; done) | (simp [*]; done)), H', ⟨Nat.le_refl _⟩, ⟨by repeat (first | (with_reducible first | exact HI0.out | apply IsS67.alloc | apply IsS67.drewN | apply IsS67.drew) | exact HI0.out)⟩, ⟨by repeat (first | (with_reducible first | exact HK.out | apply Go.Proofs.Ytjaibpphlbddoaa.Opq.KeepO.drewN | apply Go.Proofs.Ytjaibpphlbddoaa.Opq.KeepO.drew | apply Go.Proofs.Ytjaibpphlbddoaa.Opq.KeepO.alloc) | exact HK.out)⟩, ⟨by repeat (first | (with_reducible first | exact HB.out | apply below_alloc | apply pw_below_drewN | apply below_drew1 | refine below_set ?_ (IsS67.ge HI0.out)) | exact HB.out)⟩⟩
          case round =>
            clear H'
            try clear c1
            try clear c2
            try clear p2
            try clear c3
            try clear c4
            try clear p6
            try clear c7
            try clear c7b0
            try clear c7b1
            try clear c8
            try clear c8b0
            try clear c9
            try clear c9b0
            try clear c10
            try clear c14
            try clear c14b0
            try clear p2
            obtain ⟨x13_2, x1000_2, rfl, HA, HK2, HI0, HK, HB⟩ := hrel
            cases gk with
            | zero => exact absurd HA.out (by simp [region_Lay.l0])
            | succ k2 =>
              have H := HA.out
              clear HA
              simp only [region_Lay.l0] at H
              by_cases c19 : x13_2 < t122
              · rw [if_pos c19] at H
                have c19b0 : decide (x13_2 < t122) = true := decide_eq_true c19
                clear c19
                obtain ⟨ji20, hji20⟩ : ∃ j_ : Int, (mn (wrap64 (x13_2 * 64)) (l4.length : Int)) = j_ := ⟨_, rfl⟩
                replace H : (if 0 ≤ (wrap64 ((wrap64 (x13_2 - 1)) * 64)) then (if (wrap64 ((wrap64 (x13_2 - 1)) * 64)) ≤ (ji20) then (if (ji20) ≤ (l4.length : Int) then ((sector_Disk_Write.f x1000_2 (wrap64 (a1 + x13_2)) ((l4.take ((ji20) : Int).toNat).drop ((wrap64 ((wrap64 (x13_2 - 1)) * 64)) : Int).toNat)).bind fun bt129 => (if bt129.1 = 0 then (region_Lay.l0 k2 a1 a3 l4 t122 (wrap64 (x13_2 + 1)) bt129.2) else (some (0, bt129.1, bt129.2)))) else (none)) else (none)) else (none)) = some (r1, r2, r3) := by first | (rw [hji20] at H; exact H) | (simp only [hji20] at H ⊢; exact H)
                have hji20_ : (if (l4.length : Int) < (wrap64 (x13_2 * 64)) then (l4.length : Int) else (wrap64 (x13_2 * 64))) = ji20 := hji20
                obtain ⟨ji21, hji21⟩ : ∃ j_ : Int, (wrap64 ((wrap64 (x13_2 - 1)) * 64)) = j_ := ⟨_, rfl⟩
                replace H : (if 0 ≤ (ji21) then (if (ji21) ≤ (ji20) then (if (ji20) ≤ (l4.length : Int) then ((sector_Disk_Write.f x1000_2 (wrap64 (a1 + x13_2)) ((l4.take ((ji20) : Int).toNat).drop ((ji21) : Int).toNat)).bind fun bt129 => (if bt129.1 = 0 then (region_Lay.l0 k2 a1 a3 l4 t122 (wrap64 (x13_2 + 1)) bt129.2) else (some (0, bt129.1, bt129.2)))) else (none)) else (none)) else (none)) = some (r1, r2, r3) := by first | (rw [hji21] at H; exact H) | (simp only [hji21] at H ⊢; exact H)
                have hji21w : (IntKind.i64.wrap ((wrap64 (x13_2 - 1)) * 64)) = ji21 := (i64_w _).trans hji21
                by_cases c22 : 0 ≤ (ji21)
                · rw [if_pos c22] at H
                  have c22b0 := eq_true c22
                  have c22b1 : decide (0 ≤ (ji21)) = true := decide_eq_true c22
                  clear c22
                  by_cases c23 : (ji21) ≤ (ji20)
                  · rw [if_pos c23] at H
                    have c23b0 := eq_true c23
                    have c23b1 : decide ((ji21) ≤ (ji20)) = true := decide_eq_true c23
                    clear c23
                    by_cases c24 : (ji20) ≤ (l4.length : Int)
                    · rw [if_pos c24] at H
                      have c24b0 := eq_true c24
                      have c24b1 : decide ((ji20) ≤ (l4.length : Int)) = true := decide_eq_true c24
                      clear c24
                      obtain ⟨y125, hy125⟩ : ∃ y_ : List Int, y_ = ((l4.take ((ji20) : Int).toNat).drop ((ji21) : Int).toNat) := ⟨_, rfl⟩
                      replace H : ((sector_Disk_Write.f x1000_2 (wrap64 (a1 + x13_2)) y125).bind fun bt129 => (if bt129.1 = 0 then (region_Lay.l0 k2 a1 a3 l4 t122 (wrap64 (x13_2 + 1)) bt129.2) else (some (0, bt129.1, bt129.2)))) = some (r1, r2, r3) := by first | (rw [hy125]; with_reducible exact H) | (have H2_ := (Option.bind_some _ _).symm.trans H; rw [hy125]; with_reducible exact H2_) | (have H2_ := (Option.bind_some _ _).symm.trans H; with_reducible exact H2_) | with_reducible exact H | (rw [hy125]; exact H) | exact H
                      have Ny125 := Aside0.mk hy125
                      clear hy125
                      replace H := Option.bind_eq_some_iff.mp H
                      obtain ⟨⟨t129, t130⟩, A250, H⟩ := H
                      replace H : (if t129 = 0 then (region_Lay.l0 k2 a1 a3 l4 t122 (wrap64 (x13_2 + 1)) t130) else (some (0, t129, t130))) = some (r1, r2, r3) := H
                      have A25 := Aside0.mk A250
                      clear A250
                      by_cases c26 : t129 = 0
                      · rw [if_pos c26] at H
                        have c26b0 : (t129 == 0) = true := beq_iff_eq.mpr c26
                        have c26b1 : (t129 != 0) = false := bne_eq_false_iff_eq.mpr c26
                        clear c26
                        have H' := Aside0.mk H
                        clear H
                        have q27 : ((ji20) : Int) ≤ ((l4.length : Int) : Int) := of_decide_eq_true (by first | (with_reducible assumption) | assumption)
                        obtain ⟨i027, hi027, _, hsz27, _⟩ := info_parts info5
                        have hroom27 : l4.length ≤ c4 := HC4.out
                        have hC27 : Kd.C (Kd.int .u8) _ A4 l4.length l4 := (Go.Proofs.Ytjaibpphlbddoaa.Opq.C_now HR4.out (by repeat (first | (with_reducible first | exact HK.out | apply Go.Proofs.Ytjaibpphlbddoaa.Opq.KeepO.drewN | apply Go.Proofs.Ytjaibpphlbddoaa.Opq.KeepO.drew | apply Go.Proofs.Ytjaibpphlbddoaa.Opq.KeepO.alloc) | exact HK.out)))
                        have ql27 : ((ji21) : Int) ≤ ((ji20) : Int) := of_decide_eq_true (by first | (with_reducible assumption) | assumption)
                        have q027 : (0 : Int) ≤ ((ji21) : Int) := of_decide_eq_true (by first | (with_reducible assumption) | assumption)
                        have hcut27 := cut_mid (P := Try.prog) 22 5 .i64 .i64 Try.underlying22 hi027 1 hsz27 A4 l4.length c4 (ji21) (ji20) q027 ql27 q27 hroom27
                        have hr27 := Kd.C_mid (lo := ((ji21) : Int).toNat) (hi := ((ji20) : Int).toNat) (c := c4) hC27 (by omega) (by omega) hroom27
                        obtain ⟨A27, hA27⟩ : ∃ A1, A1 = (if c4 = ((ji21) : Int).toNat then A4 else (A4 : Option Addr).map (·.add (((ji21) : Int).toNat * 1))) := ⟨_, rfl⟩
                        obtain ⟨c27, hc27⟩ : ∃ c1, c1 = c4 - ((ji21) : Int).toNat := ⟨_, rfl⟩
                        have HF27 := Aside0.mk (show ∀ W_, Go.Proofs.Ytjaibpphlbddoaa.Opq.KeepO ts67 w0.heap.size w W_ → Kd.C (Kd.int .u8) W_ A27 y125.length y125 from fun W_ hk_ => by have hr_ := Kd.C_mid (lo := ((ji21) : Int).toNat) (hi := ((ji20) : Int).toNat) (c := c4) (HR4.out W_ hk_) (by omega) (by omega) hroom27; rw [show ((l4).take ((ji20) : Int).toNat).drop ((ji21) : Int).toNat = y125 from Ny125.out.symm] at hr_; rw [hA27]; exact hr_)
                        have hy27 : y125.length = ((ji20) : Int).toNat - ((ji21) : Int).toNat := (by rw [Ny125.out, List.length_drop, List.length_take] <;> omega)
                        rw [show ((l4).take ((ji20) : Int).toNat).drop ((ji21) : Int).toNat = y125 from Ny125.out.symm] at hr27
                        replace hr27 : Kd.C (Kd.int .u8) _ A27 y125.length y125 := (by rw [hA27]; exact hr27)
                        rw [← hy27, ← hA27, ← hc27] at hcut27
                        have HR128 := Aside0.mk hr27
                        have HC128 := Aside0.mk (show y125.length ≤ c27 from by rw [hy27, hc27]; exact Nat.sub_le_sub_right (Nat.le_trans (by omega) hroom27) _)
                        clear hr27 hC27 hroom27 hi027 hsz27 hc27
                        have KY27 := Aside0.mk hy27
                        have KA27 := Aside0.mk hA27
                        clear hy27 hA27
                        have KL27 := Aside0.mk (show ((ji20) : Int).toNat ≤ l4.length from by omega)
                        have KM27 := Aside0.mk (show ((ji21) : Int).toNat ≤ ((ji20) : Int).toNat from by omega)
                        replace q27 := eq_true q27
                        go_wp2_with (first | ((with_reducible refine gate_callee (f := 14) rfl ?_); refine goesL_ (some 65) rfl rfl Try.func14 (by kernel_rfl) rfl #[.pointer (some ⟨g, 0, none⟩), .int .i64 (wrap64 (a1 + x13_2)), .slice A27 y125.length c27] rfl (by (try simp only [List.map_toArray, List.map_cons, List.map_nil]); first | done | rfl | (simp only [List.length_drop, List.length_take]; rfl)) ?_; (with_reducible refine (sector_Disk_Write.calls g x1000_2 (wrap64 (a1 + x13_2)) _ _ y125 t129 t130 w0 _ ?side1 ?side2 ?side3 ?side4 A25.out).mono ?_); (case side1 => repeat (first | (with_reducible first | exact HI0.out | apply IsS67.alloc | apply IsS67.drewN | apply IsS67.drew) | exact HI0.out)); (case side2 => repeat (first | (with_reducible first | exact HB.out | apply below_alloc | apply pw_below_drewN | apply below_drew1 | refine below_set ?_ (IsS67.ge HI0.out)) | exact HB.out)); (case side3 => exact Go.Proofs.Ytjaibpphlbddoaa.Opq.C_step HF27.out (by repeat (first | (with_reducible first | exact HK.out | apply Go.Proofs.Ytjaibpphlbddoaa.Opq.KeepO.drewN | apply Go.Proofs.Ytjaibpphlbddoaa.Opq.KeepO.drew | apply Go.Proofs.Ytjaibpphlbddoaa.Opq.KeepO.alloc) | exact HK.out))); (case side4 => exact HC128.out); rintro e w28 ⟨rfl, hi, hb, hk⟩; refine ⟨_, rfl, ?_⟩; have n0_ := Aside0.mk (Go.Proofs.Ytjaibpphlbddoaa.Opq.KeepO.trans (by repeat (first | (with_reducible first | exact HK.out | apply Go.Proofs.Ytjaibpphlbddoaa.Opq.KeepO.drewN | apply Go.Proofs.Ytjaibpphlbddoaa.Opq.KeepO.drew | apply Go.Proofs.Ytjaibpphlbddoaa.Opq.KeepO.alloc) | exact HK.out)) hk); have n1_ := Aside0.mk (hb); have n2_ := Aside0.mk (hi); clear HK; clear HB; clear HI0; have HK := n0_; have HB := n1_; have HI0 := n2_; clear n0_ n1_ n2_; (try clear hb); (try clear hb2); (try clear hk); (try clear hi)))
                        go_roundg k2
                        case measure => have := HJ5.out; have := HK2.out; omega
                        case rel => exact ⟨(wrap64 (x13_2 + 1)), (t130), (by first | rfl | (simp; done) | (simp [*]; done)), H', ⟨by have := HJ5.out; have := HK2.out; omega⟩, ⟨by repeat (first | (with_reducible first | exact HI0.out | apply IsS67.alloc | apply IsS67.drewN | apply IsS67.drew) | exact HI0.out)⟩, ⟨by repeat (first | (with_reducible first | exact HK.out | apply Go.Proofs.Ytjaibpphlbddoaa.Opq.KeepO.drewN | apply Go.Proofs.Ytjaibpphlbddoaa.Opq.KeepO.drew | apply Go.Proofs.Ytjaibpphlbddoaa.Opq.KeepO.alloc) | exact HK.out)⟩, ⟨by repeat (first | (with_reducible first | exact HB.out | apply below_alloc | apply pw_below_drewN | apply below_drew1 | refine below_set ?_ (IsS67.ge HI0.out)) | exact HB.out)⟩⟩
                      · rw [if_neg c26] at H
                        have c26b0 : (t129 == 0) = false := beq_eq_false_iff_ne.mpr c26
                        have c26b1 : (t129 != 0) = true := bne_iff_ne.mpr c26
                        simp only [Option.some.injEq, Prod.mk.injEq] at H
                        obtain ⟨rfl, rfl, rfl⟩ := H
                        have q29 : ((ji20) : Int) ≤ ((l4.length : Int) : Int) := of_decide_eq_true (by first | (with_reducible assumption) | assumption)
                        obtain ⟨i029, hi029, _, hsz29, _⟩ := info_parts info5
                        have hroom29 : l4.length ≤ c4 := HC4.out
                        have hC29 : Kd.C (Kd.int .u8) _ A4 l4.length l4 := (Go.Proofs.Ytjaibpphlbddoaa.Opq.C_now HR4.out (by repeat (first | (with_reducible first | exact HK.out | apply Go.Proofs.Ytjaibpphlbddoaa.Opq.KeepO.drewN | apply Go.Proofs.Ytjaibpphlbddoaa.Opq.KeepO.drew | apply Go.Proofs.Ytjaibpphlbddoaa.Opq.KeepO.alloc) | exact HK.out)))
                        have ql29 : ((ji21) : Int) ≤ ((ji20) : Int) := of_decide_eq_true (by first | (with_reducible assumption) | assumption)
                        have q029 : (0 : Int) ≤ ((ji21) : Int) := of_decide_eq_true (by first | (with_reducible assumption) | assumption)
                        have hcut29 := cut_mid (P := Try.prog) 22 5 .i64 .i64 Try.underlying22 hi029 1 hsz29 A4 l4.length c4 (ji21) (ji20) q029 ql29 q29 hroom29
                        have hr29 := Kd.C_mid (lo := ((ji21) : Int).toNat) (hi := ((ji20) : Int).toNat) (c := c4) hC29 (by omega) (by omega) hroom29
                        obtain ⟨A29, hA29⟩ : ∃ A1, A1 = (if c4 = ((ji21) : Int).toNat then A4 else (A4 : Option Addr).map (·.add (((ji21) : Int).toNat * 1))) := ⟨_, rfl⟩
                        obtain ⟨c29, hc29⟩ : ∃ c1, c1 = c4 - ((ji21) : Int).toNat := ⟨_, rfl⟩
                        have HF29 := Aside0.mk (show ∀ W_, Go.Proofs.Ytjaibpphlbddoaa.Opq.KeepO ts67 w0.heap.size w W_ → Kd.C (Kd.int .u8) W_ A29 y125.length y125 from fun W_ hk_ => by have hr_ := Kd.C_mid (lo := ((ji21) : Int).toNat) (hi := ((ji20) : Int).toNat) (c := c4) (HR4.out W_ hk_) (by omega) (by omega) hroom29; rw [show ((l4).take ((ji20) : Int).toNat).drop ((ji21) : Int).toNat = y125 from Ny125.out.symm] at hr_; rw [hA29]; exact hr_)
                        have hy29 : y125.length = ((ji20) : Int).toNat - ((ji21) : Int).toNat := (by rw [Ny125.out, List.length_drop, List.length_take] <;> omega)
                        rw [show ((l4).take ((ji20) : Int).toNat).drop ((ji21) : Int).toNat = y125 from Ny125.out.symm] at hr29
                        replace hr29 : Kd.C (Kd.int .u8) _ A29 y125.length y125 := (by rw [hA29]; exact hr29)
                        rw [← hy29, ← hA29, ← hc29] at hcut29
                        have HR128 := Aside0.mk hr29
                        have HC128 := Aside0.mk (show y125.length ≤ c29 from by rw [hy29, hc29]; exact Nat.sub_le_sub_right (Nat.le_trans (by omega) hroom29) _)
                        clear hr29 hC29 hroom29 hi029 hsz29 hc29
                        have KY29 := Aside0.mk hy29
                        have KA29 := Aside0.mk hA29
                        clear hy29 hA29
                        have KL29 := Aside0.mk (show ((ji20) : Int).toNat ≤ l4.length from by omega)
                        have KM29 := Aside0.mk (show ((ji21) : Int).toNat ≤ ((ji20) : Int).toNat from by omega)
                        replace q29 := eq_true q29
                        go_wp2_with (first | ((with_reducible refine gate_callee (f := 14) rfl ?_); refine goesL_ (some 65) rfl rfl Try.func14 (by kernel_rfl) rfl #[.pointer (some ⟨g, 0, none⟩), .int .i64 (wrap64 (a1 + x13_2)), .slice A29 y125.length c29] rfl (by (try simp only [List.map_toArray, List.map_cons, List.map_nil]); first | done | rfl | (simp only [List.length_drop, List.length_take]; rfl)) ?_; (with_reducible refine (sector_Disk_Write.calls g x1000_2 (wrap64 (a1 + x13_2)) _ _ y125 t129 t130 w0 _ ?side1 ?side2 ?side3 ?side4 A25.out).mono ?_); (case side1 => repeat (first | (with_reducible first | exact HI0.out | apply IsS67.alloc | apply IsS67.drewN | apply IsS67.drew) | exact HI0.out)); (case side2 => repeat (first | (with_reducible first | exact HB.out | apply below_alloc | apply pw_below_drewN | apply below_drew1 | refine below_set ?_ (IsS67.ge HI0.out)) | exact HB.out)); (case side3 => exact Go.Proofs.Ytjaibpphlbddoaa.Opq.C_step HF29.out (by repeat (first | (with_reducible first | exact HK.out | apply Go.Proofs.Ytjaibpphlbddoaa.Opq.KeepO.drewN | apply Go.Proofs.Ytjaibpphlbddoaa.Opq.KeepO.drew | apply Go.Proofs.Ytjaibpphlbddoaa.Opq.KeepO.alloc) | exact HK.out))); (case side4 => exact HC128.out); rintro e w30 ⟨rfl, hi, hb, hk⟩; refine ⟨_, rfl, ?_⟩; have n0_ := Aside0.mk (Go.Proofs.Ytjaibpphlbddoaa.Opq.KeepO.trans (by repeat (first | (with_reducible first | exact HK.out | apply Go.Proofs.Ytjaibpphlbddoaa.Opq.KeepO.drewN | apply Go.Proofs.Ytjaibpphlbddoaa.Opq.KeepO.drew | apply Go.Proofs.Ytjaibpphlbddoaa.Opq.KeepO.alloc) | exact HK.out)) hk); have n1_ := Aside0.mk (hb); have n2_ := Aside0.mk (hi); clear HK; clear HB; clear HI0; have HK := n0_; have HB := n1_; have HI0 := n2_; clear n0_ n1_ n2_; (try clear hb); (try clear hb2); (try clear hk); (try clear hi)))
                        go_ret2
                        exact ⟨by first | rfl | (simp [errW_none, errW_some] <;> rfl) | (simp only [← hji13, ← hji20, ← hji21]; first | rfl | (simp [errW_none, errW_some] <;> rfl)) | (simp [*, errW_none, errW_some] <;> rfl), by repeat (first | (with_reducible first | exact HI0.out | apply IsS67.alloc | apply IsS67.drewN | apply IsS67.drew) | exact HI0.out), by repeat (first | (with_reducible first | exact HB.out | apply below_alloc | apply pw_below_drewN | apply below_drew1 | refine below_set ?_ (IsS67.ge HI0.out)) | exact HB.out), by repeat (first | (with_reducible first | exact HK.out | apply Go.Proofs.Ytjaibpphlbddoaa.Opq.KeepO.drewN | apply Go.Proofs.Ytjaibpphlbddoaa.Opq.KeepO.drew | apply Go.Proofs.Ytjaibpphlbddoaa.Opq.KeepO.alloc) | exact HK.out)⟩
                    · rw [if_neg c24] at H
                      exact absurd H (by simp)
                  · rw [if_neg c23] at H
                    exact absurd H (by simp)
                · rw [if_neg c22] at H
                  exact absurd H (by simp)
              · rw [if_neg c19] at H
                have c19b0 : decide (x13_2 < t122) = false := decide_eq_false c19
                clear c19
                replace H := Option.bind_eq_some_iff.mp H
                obtain ⟨⟨t131, t132⟩, A310, H⟩ := H
                replace H : (if t131 = 0 then ((region_first.f k2 a3 l4).bind fun t133 => ((sector_Disk_Write.f t132 a1 t133).bind fun bt136 => (if bt136.1 = 0 then ((sector_Disk_Flush.f bt136.2).bind fun bt138 => (if bt138.1 = 0 then (some (wrap64 (a1 + t122), 0, bt138.2)) else (some (0, bt138.1, bt138.2)))) else (some (0, bt136.1, bt136.2))))) else (some (0, t131, t132))) = some (r1, r2, r3) := H
                have A31 := Aside0.mk A310
                clear A310
                by_cases c32 : t131 = 0
                · rw [if_pos c32] at H
                  have c32b0 : (t131 == 0) = true := beq_iff_eq.mpr c32
                  have c32b1 : (t131 != 0) = false := bne_eq_false_iff_eq.mpr c32
                  clear c32
                  replace H := Option.bind_eq_some_iff.mp H
                  obtain ⟨t133, A330, H⟩ := H
                  replace H : ((sector_Disk_Write.f t132 a1 t133).bind fun bt136 => (if bt136.1 = 0 then ((sector_Disk_Flush.f bt136.2).bind fun bt138 => (if bt138.1 = 0 then (some (wrap64 (a1 + t122), 0, bt138.2)) else (some (0, bt138.1, bt138.2)))) else (some (0, bt136.1, bt136.2)))) = some (r1, r2, r3) := H
                  have A33 := Aside0.mk A330
                  clear A330
                  replace H := Option.bind_eq_some_iff.mp H
                  obtain ⟨⟨t136, t137⟩, A340, H⟩ := H
                  replace H : (if t136 = 0 then ((sector_Disk_Flush.f t137).bind fun bt138 => (if bt138.1 = 0 then (some (wrap64 (a1 + t122), 0, bt138.2)) else (some (0, bt138.1, bt138.2)))) else (some (0, t136, t137))) = some (r1, r2, r3) := H
                  have A34 := Aside0.mk A340
                  clear A340
                  by_cases c35 : t136 = 0
                  · rw [if_pos c35] at H
                    have c35b0 : (t136 == 0) = true := beq_iff_eq.mpr c35
                    have c35b1 : (t136 != 0) = false := bne_eq_false_iff_eq.mpr c35
                    clear c35
                    replace H := Option.bind_eq_some_iff.mp H
                    obtain ⟨⟨t138, t139⟩, A360, H⟩ := H
                    replace H : (if t138 = 0 then (some (wrap64 (a1 + t122), 0, t139)) else (some (0, t138, t139))) = some (r1, r2, r3) := H
                    have A36 := Aside0.mk A360
                    clear A360
                    by_cases c37 : t138 = 0
                    · rw [if_pos c37] at H
                      have c37b0 : (t138 == 0) = true := beq_iff_eq.mpr c37
                      have c37b1 : (t138 != 0) = false := bne_eq_false_iff_eq.mpr c37
                      clear c37
                      simp only [Option.some.injEq, Prod.mk.injEq] at H
                      obtain ⟨rfl, rfl, rfl⟩ := H
                      go_wp2_with (first | ((with_reducible refine gate_callee (f := 19) rfl ?_); refine goesL_ (some 70) rfl rfl Try.func19 (by kernel_rfl) rfl #[.pointer (some ⟨g, 0, none⟩)] rfl (by (try simp only [List.map_toArray, List.map_cons, List.map_nil]); first | done | rfl | (simp only [List.length_drop, List.length_take]; rfl)) ?_; (with_reducible refine (sector_Disk_Flush.calls g x1000_2 t131 t132 w0 _ ?side1 ?side2 A31.out).mono ?_); (case side1 => repeat (first | (with_reducible first | exact HI0.out | apply IsS67.alloc | apply IsS67.drewN | apply IsS67.drew) | exact HI0.out)); (case side2 => repeat (first | (with_reducible first | exact HB.out | apply below_alloc | apply pw_below_drewN | apply below_drew1 | refine below_set ?_ (IsS67.ge HI0.out)) | exact HB.out)); rintro e w38 ⟨rfl, hi, hb, hk⟩; refine ⟨_, rfl, ?_⟩; have n0_ := Aside0.mk (Go.Proofs.Ytjaibpphlbddoaa.Opq.KeepO.trans (by repeat (first | (with_reducible first | exact HK.out | apply Go.Proofs.Ytjaibpphlbddoaa.Opq.KeepO.drewN | apply Go.Proofs.Ytjaibpphlbddoaa.Opq.KeepO.drew | apply Go.Proofs.Ytjaibpphlbddoaa.Opq.KeepO.alloc) | exact HK.out)) hk); have n1_ := Aside0.mk (hb); have n2_ := Aside0.mk (hi); clear HK; clear HB; clear HI0; have HK := n0_; have HB := n1_; have HI0 := n2_; clear n0_ n1_ n2_; (try clear hb); (try clear hb2); (try clear hk); (try clear hi)) | ((with_reducible refine gate_callee (f := 39) rfl ?_); refine goesL_ (some 78) rfl rfl Try.func39 (by kernel_rfl) rfl #[.int .i64 a3, .slice A4 l4.length c4] rfl (by (try simp only [List.map_toArray, List.map_cons, List.map_nil]); first | done | rfl | (simp only [List.length_drop, List.length_take]; rfl)) ?_; (with_reducible refine (region_first.calls k2 a3 _ _ l4 t133 _ ?side1 ?side2 A33.out).mono ?_); (case side1 => exact Go.Proofs.Ytjaibpphlbddoaa.Opq.C_now HR4.out (by repeat (first | (with_reducible first | exact HK.out | apply Go.Proofs.Ytjaibpphlbddoaa.Opq.KeepO.drewN | apply Go.Proofs.Ytjaibpphlbddoaa.Opq.KeepO.drew | apply Go.Proofs.Ytjaibpphlbddoaa.Opq.KeepO.alloc) | exact HK.out))); (case side2 => exact HC4.out); rintro e w39 ⟨v134, rfl, ho0, hb⟩; refine ⟨_, rfl, ?_⟩; have n0_ := Aside0.mk (Kd.R_lower ho0 (Go.Proofs.Ytjaibpphlbddoaa.Opq.KeepO.size (by repeat (first | (with_reducible first | exact HK.out | apply Go.Proofs.Ytjaibpphlbddoaa.Opq.KeepO.drewN | apply Go.Proofs.Ytjaibpphlbddoaa.Opq.KeepO.drew | apply Go.Proofs.Ytjaibpphlbddoaa.Opq.KeepO.alloc) | exact HK.out)))); have n1_ := Aside0.mk (IsS67.below (by repeat (first | (with_reducible first | exact HI0.out | apply IsS67.alloc | apply IsS67.drewN | apply IsS67.drew) | exact HI0.out)) hb); have n2_ := Aside0.mk (Go.Proofs.Ytjaibpphlbddoaa.Opq.KeepO.trans (by repeat (first | (with_reducible first | exact HK.out | apply Go.Proofs.Ytjaibpphlbddoaa.Opq.KeepO.drewN | apply Go.Proofs.Ytjaibpphlbddoaa.Opq.KeepO.drew | apply Go.Proofs.Ytjaibpphlbddoaa.Opq.KeepO.alloc) | exact HK.out)) (Go.Proofs.Ytjaibpphlbddoaa.Opq.KeepO.of_below hb)); have n3_ := Aside0.mk (below_step (by repeat (first | (with_reducible first | exact HB.out | apply below_alloc | apply pw_below_drewN | apply below_drew1 | refine below_set ?_ (IsS67.ge HI0.out)) | exact HB.out)) hb); clear HI0; clear HK; clear HB; have HO135 := n0_; have HI0 := n1_; have HK := n2_; have HB := n3_; clear n0_ n1_ n2_ n3_; (try clear hb); (try clear hb2); (try clear hk); (try clear hi); (try clear ho0); obtain ⟨Ao40, co40, eo40⟩ := Kd.R_slice HO135.out; subst eo40) | ((with_reducible refine gate_callee (f := 14) rfl ?_); refine goesL_ (some 79) rfl rfl Try.func14 (by kernel_rfl) rfl #[.pointer (some ⟨g, 0, none⟩), .int .i64 a1, .slice Ao40 t133.length co40] rfl (by (try simp only [List.map_toArray, List.map_cons, List.map_nil]); first | done | rfl | (simp only [List.length_drop, List.length_take]; rfl)) ?_; (with_reducible refine (sector_Disk_Write.calls g t132 a1 _ _ t133 t136 t137 w0 _ ?side1 ?side2 ?side3 ?side4 A34.out).mono ?_); (case side1 => repeat (first | (with_reducible first | exact HI0.out | apply IsS67.alloc | apply IsS67.drewN | apply IsS67.drew) | exact HI0.out)); (case side2 => repeat (first | (with_reducible first | exact HB.out | apply below_alloc | apply pw_below_drewN | apply below_drew1 | refine below_set ?_ (IsS67.ge HI0.out)) | exact HB.out)); (case side3 => exact Go.Proofs.Ytjaibpphlbddoaa.Opq.C_ownR (by (with_reducible repeat (first | apply Kd.R_alloc | apply Kd.R_drewN | apply Kd.R_drew)); exact HO135.out) (by decide)); (case side4 => exact (Kd.R_reads' HO135.out).2.1); rintro e w41 ⟨rfl, hi, hb, hk⟩; refine ⟨_, rfl, ?_⟩; have n0_ := Aside0.mk (Go.Proofs.Ytjaibpphlbddoaa.Opq.R_keep (by (with_reducible repeat (first | apply Kd.R_alloc | apply Kd.R_drewN | apply Kd.R_drew)); exact HO135.out) hk (by decide)); have n1_ := Aside0.mk (Go.Proofs.Ytjaibpphlbddoaa.Opq.KeepO.trans (by repeat (first | (with_reducible first | exact HK.out | apply Go.Proofs.Ytjaibpphlbddoaa.Opq.KeepO.drewN | apply Go.Proofs.Ytjaibpphlbddoaa.Opq.KeepO.drew | apply Go.Proofs.Ytjaibpphlbddoaa.Opq.KeepO.alloc) | exact HK.out)) hk); have n2_ := Aside0.mk (hb); have n3_ := Aside0.mk (hi); clear HO135; clear HK; clear HB; clear HI0; have HO135 := n0_; have HK := n1_; have HB := n2_; have HI0 := n3_; clear n0_ n1_ n2_ n3_; (try clear hb); (try clear hb2); (try clear hk); (try clear hi)) | ((with_reducible refine gate_callee (f := 19) rfl ?_); refine goesL_ (some 84) rfl rfl Try.func19 (by kernel_rfl) rfl #[.pointer (some ⟨g, 0, none⟩)] rfl (by (try simp only [List.map_toArray, List.map_cons, List.map_nil]); first | done | rfl | (simp only [List.length_drop, List.length_take]; rfl)) ?_; (with_reducible refine (sector_Disk_Flush.calls g t137 t138 t139 w0 _ ?side1 ?side2 A36.out).mono ?_); (case side1 => repeat (first | (with_reducible first | exact HI0.out | apply IsS67.alloc | apply IsS67.drewN | apply IsS67.drew) | exact HI0.out)); (case side2 => repeat (first | (with_reducible first | exact HB.out | apply below_alloc | apply pw_below_drewN | apply below_drew1 | refine below_set ?_ (IsS67.ge HI0.out)) | exact HB.out)); rintro e w42 ⟨rfl, hi, hb, hk⟩; refine ⟨_, rfl, ?_⟩; have n0_ := Aside0.mk (Go.Proofs.Ytjaibpphlbddoaa.Opq.R_keep (by (with_reducible repeat (first | apply Kd.R_alloc | apply Kd.R_drewN | apply Kd.R_drew)); exact HO135.out) hk (by decide)); have n1_ := Aside0.mk (Go.Proofs.Ytjaibpphlbddoaa.Opq.KeepO.trans (by repeat (first | (with_reducible first | exact HK.out | apply Go.Proofs.Ytjaibpphlbddoaa.Opq.KeepO.drewN | apply Go.Proofs.Ytjaibpphlbddoaa.Opq.KeepO.drew | apply Go.Proofs.Ytjaibpphlbddoaa.Opq.KeepO.alloc) | exact HK.out)) hk); have n2_ := Aside0.mk (hb); have n3_ := Aside0.mk (hi); clear HO135; clear HK; clear HB; clear HI0; have HO135 := n0_; have HK := n1_; have HB := n2_; have HI0 := n3_; clear n0_ n1_ n2_ n3_; (try clear hb); (try clear hb2); (try clear hk); (try clear hi)))
                      go_ret2
                      exact ⟨by first | rfl | (simp [errW_none, errW_some] <;> rfl) | (simp only [← hji13]; first | rfl | (simp [errW_none, errW_some] <;> rfl)) | (simp [*, errW_none, errW_some] <;> rfl), by repeat (first | (with_reducible first | exact HI0.out | apply IsS67.alloc | apply IsS67.drewN | apply IsS67.drew) | exact HI0.out), by repeat (first | (with_reducible first | exact HB.out | apply below_alloc | apply pw_below_drewN | apply below_drew1 | refine below_set ?_ (IsS67.ge HI0.out)) | exact HB.out), by repeat (first | (with_reducible first | exact HK.out | apply Go.Proofs.Ytjaibpphlbddoaa.Opq.KeepO.drewN | apply Go.Proofs.Ytjaibpphlbddoaa.Opq.KeepO.drew | apply Go.Proofs.Ytjaibpphlbddoaa.Opq.KeepO.alloc) | exact HK.out)⟩
                    · rw [if_neg c37] at H
                      have c37b0 : (t138 == 0) = false := beq_eq_false_iff_ne.mpr c37
                      have c37b1 : (t138 != 0) = true := bne_iff_ne.mpr c37
                      simp only [Option.some.injEq, Prod.mk.injEq] at H
                      obtain ⟨rfl, rfl, rfl⟩ := H
                      go_wp2_with (first | ((with_reducible refine gate_callee (f := 19) rfl ?_); refine goesL_ (some 70) rfl rfl Try.func19 (by kernel_rfl) rfl #[.pointer (some ⟨g, 0, none⟩)] rfl (by (try simp only [List.map_toArray, List.map_cons, List.map_nil]); first | done | rfl | (simp only [List.length_drop, List.length_take]; rfl)) ?_; (with_reducible refine (sector_Disk_Flush.calls g x1000_2 t131 t132 w0 _ ?side1 ?side2 A31.out).mono ?_); (case side1 => repeat (first | (with_reducible first | exact HI0.out | apply IsS67.alloc | apply IsS67.drewN | apply IsS67.drew) | exact HI0.out)); (case side2 => repeat (first | (with_reducible first | exact HB.out | apply below_alloc | apply pw_below_drewN | apply below_drew1 | refine below_set ?_ (IsS67.ge HI0.out)) | exact HB.out)); rintro e w43 ⟨rfl, hi, hb, hk⟩; refine ⟨_, rfl, ?_⟩; have n0_ := Aside0.mk (Go.Proofs.Ytjaibpphlbddoaa.Opq.KeepO.trans (by repeat (first | (with_reducible first | exact HK.out | apply Go.Proofs.Ytjaibpphlbddoaa.Opq.KeepO.drewN | apply Go.Proofs.Ytjaibpphlbddoaa.Opq.KeepO.drew | apply Go.Proofs.Ytjaibpphlbddoaa.Opq.KeepO.alloc) | exact HK.out)) hk); have n1_ := Aside0.mk (hb); have n2_ := Aside0.mk (hi); clear HK; clear HB; clear HI0; have HK := n0_; have HB := n1_; have HI0 := n2_; clear n0_ n1_ n2_; (try clear hb); (try clear hb2); (try clear hk); (try clear hi)) | ((with_reducible refine gate_callee (f := 39) rfl ?_); refine goesL_ (some 78) rfl rfl Try.func39 (by kernel_rfl) rfl #[.int .i64 a3, .slice A4 l4.length c4] rfl (by (try simp only [List.map_toArray, List.map_cons, List.map_nil]); first | done | rfl | (simp only [List.length_drop, List.length_take]; rfl)) ?_; (with_reducible refine (region_first.calls k2 a3 _ _ l4 t133 _ ?side1 ?side2 A33.out).mono ?_); (case side1 => exact Go.Proofs.Ytjaibpphlbddoaa.Opq.C_now HR4.out (by repeat (first | (with_reducible first | exact HK.out | apply Go.Proofs.Ytjaibpphlbddoaa.Opq.KeepO.drewN | apply Go.Proofs.Ytjaibpphlbddoaa.Opq.KeepO.drew | apply Go.Proofs.Ytjaibpphlbddoaa.Opq.KeepO.alloc) | exact HK.out))); (case side2 => exact HC4.out); rintro e w44 ⟨v134, rfl, ho0, hb⟩; refine ⟨_, rfl, ?_⟩; have n0_ := Aside0.mk (Kd.R_lower ho0 (Go.Proofs.Ytjaibpphlbddoaa.Opq.KeepO.size (by repeat (first | (with_reducible first | exact HK.out | apply Go.Proofs.Ytjaibpphlbddoaa.Opq.KeepO.drewN | apply Go.Proofs.Ytjaibpphlbddoaa.Opq.KeepO.drew | apply Go.Proofs.Ytjaibpphlbddoaa.Opq.KeepO.alloc) | exact HK.out)))); have n1_ := Aside0.mk (IsS67.below (by repeat (first | (with_reducible first | exact HI0.out | apply IsS67.alloc | apply IsS67.drewN | apply IsS67.drew) | exact HI0.out)) hb); have n2_ := Aside0.mk (Go.Proofs.Ytjaibpphlbddoaa.Opq.KeepO.trans (by repeat (first | (with_reducible first | exact HK.out | apply Go.Proofs.Ytjaibpphlbddoaa.Opq.KeepO.drewN | apply Go.Proofs.Ytjaibpphlbddoaa.Opq.KeepO.drew | apply Go.Proofs.Ytjaibpphlbddoaa.Opq.KeepO.alloc) | exact HK.out)) (Go.Proofs.Ytjaibpphlbddoaa.Opq.KeepO.of_below hb)); have n3_ := Aside0.mk (below_step (by repeat (first | (with_reducible first | exact HB.out | apply below_alloc | apply pw_below_drewN | apply below_drew1 | refine below_set ?_ (IsS67.ge HI0.out)) | exact HB.out)) hb); clear HI0; clear HK; clear HB; have HO135 := n0_; have HI0 := n1_; have HK := n2_; have HB := n3_; clear n0_ n1_ n2_ n3_; (try clear hb); (try clear hb2); (try clear hk); (try clear hi); (try clear ho0); obtain ⟨Ao45, co45, eo45⟩ := Kd.R_slice HO135.out; subst eo45) | ((with_reducible refine gate_callee (f := 14) rfl ?_); refine goesL_ (some 79) rfl rfl Try.func14 (by kernel_rfl) rfl #[.pointer (some ⟨g, 0, none⟩), .int .i64 a1, .slice Ao45 t133.length co45] rfl (by (try simp only [List.map_toArray, List.map_cons, List.map_nil]); first | done | rfl | (simp only [List.length_drop, List.length_take]; rfl)) ?_; (with_reducible refine (sector_Disk_Write.calls g t132 a1 _ _ t133 t136 t137 w0 _ ?side1 ?side2 ?side3 ?side4 A34.out).mono ?_); (case side1 => repeat (first | (with_reducible first | exact HI0.out | apply IsS67.alloc | apply IsS67.drewN | apply IsS67.drew) | exact HI0.out)); (case side2 => repeat (first | (with_reducible first | exact HB.out | apply below_alloc | apply pw_below_drewN | apply below_drew1 | refine below_set ?_ (IsS67.ge HI0.out)) | exact HB.out)); (case side3 => exact Go.Proofs.Ytjaibpphlbddoaa.Opq.C_ownR (by (with_reducible repeat (first | apply Kd.R_alloc | apply Kd.R_drewN | apply Kd.R_drew)); exact HO135.out) (by decide)); (case side4 => exact (Kd.R_reads' HO135.out).2.1); rintro e w46 ⟨rfl, hi, hb, hk⟩; refine ⟨_, rfl, ?_⟩; have n0_ := Aside0.mk (Go.Proofs.Ytjaibpphlbddoaa.Opq.R_keep (by (with_reducible repeat (first | apply Kd.R_alloc | apply Kd.R_drewN | apply Kd.R_drew)); exact HO135.out) hk (by decide)); have n1_ := Aside0.mk (Go.Proofs.Ytjaibpphlbddoaa.Opq.KeepO.trans (by repeat (first | (with_reducible first | exact HK.out | apply Go.Proofs.Ytjaibpphlbddoaa.Opq.KeepO.drewN | apply Go.Proofs.Ytjaibpphlbddoaa.Opq.KeepO.drew | apply Go.Proofs.Ytjaibpphlbddoaa.Opq.KeepO.alloc) | exact HK.out)) hk); have n2_ := Aside0.mk (hb); have n3_ := Aside0.mk (hi); clear HO135; clear HK; clear HB; clear HI0; have HO135 := n0_; have HK := n1_; have HB := n2_; have HI0 := n3_; clear n0_ n1_ n2_ n3_; (try clear hb); (try clear hb2); (try clear hk); (try clear hi)) | ((with_reducible refine gate_callee (f := 19) rfl ?_); refine goesL_ (some 84) rfl rfl Try.func19 (by kernel_rfl) rfl #[.pointer (some ⟨g, 0, none⟩)] rfl (by (try simp only [List.map_toArray, List.map_cons, List.map_nil]); first | done | rfl | (simp only [List.length_drop, List.length_take]; rfl)) ?_; (with_reducible refine (sector_Disk_Flush.calls g t137 t138 t139 w0 _ ?side1 ?side2 A36.out).mono ?_); (case side1 => repeat (first | (with_reducible first | exact HI0.out | apply IsS67.alloc | apply IsS67.drewN | apply IsS67.drew) | exact HI0.out)); (case side2 => repeat (first | (with_reducible first | exact HB.out | apply below_alloc | apply pw_below_drewN | apply below_drew1 | refine below_set ?_ (IsS67.ge HI0.out)) | exact HB.out)); rintro e w47 ⟨rfl, hi, hb, hk⟩; refine ⟨_, rfl, ?_⟩; have n0_ := Aside0.mk (Go.Proofs.Ytjaibpphlbddoaa.Opq.R_keep (by (with_reducible repeat (first | apply Kd.R_alloc | apply Kd.R_drewN | apply Kd.R_drew)); exact HO135.out) hk (by decide)); have n1_ := Aside0.mk (Go.Proofs.Ytjaibpphlbddoaa.Opq.KeepO.trans (by repeat (first | (with_reducible first | exact HK.out | apply Go.Proofs.Ytjaibpphlbddoaa.Opq.KeepO.drewN | apply Go.Proofs.Ytjaibpphlbddoaa.Opq.KeepO.drew | apply Go.Proofs.Ytjaibpphlbddoaa.Opq.KeepO.alloc) | exact HK.out)) hk); have n2_ := Aside0.mk (hb); have n3_ := Aside0.mk (hi); clear HO135; clear HK; clear HB; clear HI0; have HO135 := n0_; have HK := n1_; have HB := n2_; have HI0 := n3_; clear n0_ n1_ n2_ n3_; (try clear hb); (try clear hb2); (try clear hk); (try clear hi)))
                      go_ret2
                      exact ⟨by first | rfl | (simp [errW_none, errW_some] <;> rfl) | (simp only [← hji13]; first | rfl | (simp [errW_none, errW_some] <;> rfl)) | (simp [*, errW_none, errW_some] <;> rfl), by repeat (first | (with_reducible first | exact HI0.out | apply IsS67.alloc | apply IsS67.drewN | apply IsS67.drew) | exact HI0.out), by repeat (first | (with_reducible first | exact HB.out | apply below_alloc | apply pw_below_drewN | apply below_drew1 | refine below_set ?_ (IsS67.ge HI0.out)) | exact HB.out), by repeat (first | (with_reducible first | exact HK.out | apply Go.Proofs.Ytjaibpphlbddoaa.Opq.KeepO.drewN | apply Go.Proofs.Ytjaibpphlbddoaa.Opq.KeepO.drew | apply Go.Proofs.Ytjaibpphlbddoaa.Opq.KeepO.alloc) | exact HK.out)⟩
                  · rw [if_neg c35] at H
                    have c35b0 : (t136 == 0) = false := beq_eq_false_iff_ne.mpr c35
                    have c35b1 : (t136 != 0) = true := bne_iff_ne.mpr c35
                    simp only [Option.some.injEq, Prod.mk.injEq] at H
                    obtain ⟨rfl, rfl, rfl⟩ := H
                    go_wp2_with (first | ((with_reducible refine gate_callee (f := 19) rfl ?_); refine goesL_ (some 70) rfl rfl Try.func19 (by kernel_rfl) rfl #[.pointer (some ⟨g, 0, none⟩)] rfl (by (try simp only [List.map_toArray, List.map_cons, List.map_nil]); first | done | rfl | (simp only [List.length_drop, List.length_take]; rfl)) ?_; (with_reducible refine (sector_Disk_Flush.calls g x1000_2 t131 t132 w0 _ ?side1 ?side2 A31.out).mono ?_); (case side1 => repeat (first | (with_reducible first | exact HI0.out | apply IsS67.alloc | apply IsS67.drewN | apply IsS67.drew) | exact HI0.out)); (case side2 => repeat (first | (with_reducible first | exact HB.out | apply below_alloc | apply pw_below_drewN | apply below_drew1 | refine below_set ?_ (IsS67.ge HI0.out)) | exact HB.out)); rintro e w48 ⟨rfl, hi, hb, hk⟩; refine ⟨_, rfl, ?_⟩; have n0_ := Aside0.mk (Go.Proofs.Ytjaibpphlbddoaa.Opq.KeepO.trans (by repeat (first | (with_reducible first | exact HK.out | apply Go.Proofs.Ytjaibpphlbddoaa.Opq.KeepO.drewN | apply Go.Proofs.Ytjaibpphlbddoaa.Opq.KeepO.drew | apply Go.Proofs.Ytjaibpphlbddoaa.Opq.KeepO.alloc) | exact HK.out)) hk); have n1_ := Aside0.mk (hb); have n2_ := Aside0.mk (hi); clear HK; clear HB; clear HI0; have HK := n0_; have HB := n1_; have HI0 := n2_; clear n0_ n1_ n2_; (try clear hb); (try clear hb2); (try clear hk); (try clear hi)) | ((with_reducible refine gate_callee (f := 39) rfl ?_); refine goesL_ (some 78) rfl rfl Try.func39 (by kernel_rfl) rfl #[.int .i64 a3, .slice A4 l4.length c4] rfl (by (try simp only [List.map_toArray, List.map_cons, List.map_nil]); first | done | rfl | (simp only [List.length_drop, List.length_take]; rfl)) ?_; (with_reducible refine (region_first.calls k2 a3 _ _ l4 t133 _ ?side1 ?side2 A33.out).mono ?_); (case side1 => exact Go.Proofs.Ytjaibpphlbddoaa.Opq.C_now HR4.out (by repeat (first | (with_reducible first | exact HK.out | apply Go.Proofs.Ytjaibpphlbddoaa.Opq.KeepO.drewN | apply Go.Proofs.Ytjaibpphlbddoaa.Opq.KeepO.drew | apply Go.Proofs.Ytjaibpphlbddoaa.Opq.KeepO.alloc) | exact HK.out))); (case side2 => exact HC4.out); rintro e w49 ⟨v134, rfl, ho0, hb⟩; refine ⟨_, rfl, ?_⟩; have n0_ := Aside0.mk (Kd.R_lower ho0 (Go.Proofs.Ytjaibpphlbddoaa.Opq.KeepO.size (by repeat (first | (with_reducible first | exact HK.out | apply Go.Proofs.Ytjaibpphlbddoaa.Opq.KeepO.drewN | apply Go.Proofs.Ytjaibpphlbddoaa.Opq.KeepO.drew | apply Go.Proofs.Ytjaibpphlbddoaa.Opq.KeepO.alloc) | exact HK.out)))); have n1_ := Aside0.mk (IsS67.below (by repeat (first | (with_reducible first | exact HI0.out | apply IsS67.alloc | apply IsS67.drewN | apply IsS67.drew) | exact HI0.out)) hb); have n2_ := Aside0.mk (Go.Proofs.Ytjaibpphlbddoaa.Opq.KeepO.trans (by repeat (first | (with_reducible first | exact HK.out | apply Go.Proofs.Ytjaibpphlbddoaa.Opq.KeepO.drewN | apply Go.Proofs.Ytjaibpphlbddoaa.Opq.KeepO.drew | apply Go.Proofs.Ytjaibpphlbddoaa.Opq.KeepO.alloc) | exact HK.out)) (Go.Proofs.Ytjaibpphlbddoaa.Opq.KeepO.of_below hb)); have n3_ := Aside0.mk (below_step (by repeat (first | (with_reducible first | exact HB.out | apply below_alloc | apply pw_below_drewN | apply below_drew1 | refine below_set ?_ (IsS67.ge HI0.out)) | exact HB.out)) hb); clear HI0; clear HK; clear HB; have HO135 := n0_; have HI0 := n1_; have HK := n2_; have HB := n3_; clear n0_ n1_ n2_ n3_; (try clear hb); (try clear hb2); (try clear hk); (try clear hi); (try clear ho0); obtain ⟨Ao50, co50, eo50⟩ := Kd.R_slice HO135.out; subst eo50) | ((with_reducible refine gate_callee (f := 14) rfl ?_); refine goesL_ (some 79) rfl rfl Try.func14 (by kernel_rfl) rfl #[.pointer (some ⟨g, 0, none⟩), .int .i64 a1, .slice Ao50 t133.length co50] rfl (by (try simp only [List.map_toArray, List.map_cons, List.map_nil]); first | done | rfl | (simp only [List.length_drop, List.length_take]; rfl)) ?_; (with_reducible refine (sector_Disk_Write.calls g t132 a1 _ _ t133 t136 t137 w0 _ ?side1 ?side2 ?side3 ?side4 A34.out).mono ?_); (case side1 => repeat (first | (with_reducible first | exact HI0.out | apply IsS67.alloc | apply IsS67.drewN | apply IsS67.drew) | exact HI0.out)); (case side2 => repeat (first | (with_reducible first | exact HB.out | apply below_alloc | apply pw_below_drewN | apply below_drew1 | refine below_set ?_ (IsS67.ge HI0.out)) | exact HB.out)); (case side3 => exact Go.Proofs.Ytjaibpphlbddoaa.Opq.C_ownR (by (with_reducible repeat (first | apply Kd.R_alloc | apply Kd.R_drewN | apply Kd.R_drew)); exact HO135.out) (by decide)); (case side4 => exact (Kd.R_reads' HO135.out).2.1); rintro e w51 ⟨rfl, hi, hb, hk⟩; refine ⟨_, rfl, ?_⟩; have n0_ := Aside0.mk (Go.Proofs.Ytjaibpphlbddoaa.Opq.R_keep (by (with_reducible repeat (first | apply Kd.R_alloc | apply Kd.R_drewN | apply Kd.R_drew)); exact HO135.out) hk (by decide)); have n1_ := Aside0.mk (Go.Proofs.Ytjaibpphlbddoaa.Opq.KeepO.trans (by repeat (first | (with_reducible first | exact HK.out | apply Go.Proofs.Ytjaibpphlbddoaa.Opq.KeepO.drewN | apply Go.Proofs.Ytjaibpphlbddoaa.Opq.KeepO.drew | apply Go.Proofs.Ytjaibpphlbddoaa.Opq.KeepO.alloc) | exact HK.out)) hk); have n2_ := Aside0.mk (hb); have n3_ := Aside0.mk (hi); clear HO135; clear HK; clear HB; clear HI0; have HO135 := n0_; have HK := n1_; have HB := n2_; have HI0 := n3_; clear n0_ n1_ n2_ n3_; (try clear hb); (try clear hb2); (try clear hk); (try clear hi)))
                    go_ret2
                    exact ⟨by first | rfl | (simp [errW_none, errW_some] <;> rfl) | (simp only [← hji13]; first | rfl | (simp [errW_none, errW_some] <;> rfl)) | (simp [*, errW_none, errW_some] <;> rfl), by repeat (first | (with_reducible first | exact HI0.out | apply IsS67.alloc | apply IsS67.drewN | apply IsS67.drew) | exact HI0.out), by repeat (first | (with_reducible first | exact HB.out | apply below_alloc | apply pw_below_drewN | apply below_drew1 | refine below_set ?_ (IsS67.ge HI0.out)) | exact HB.out), by repeat (first | (with_reducible first | exact HK.out | apply Go.Proofs.Ytjaibpphlbddoaa.Opq.KeepO.drewN | apply Go.Proofs.Ytjaibpphlbddoaa.Opq.KeepO.drew | apply Go.Proofs.Ytjaibpphlbddoaa.Opq.KeepO.alloc) | exact HK.out)⟩
                · rw [if_neg c32] at H
                  have c32b0 : (t131 == 0) = false := beq_eq_false_iff_ne.mpr c32
                  have c32b1 : (t131 != 0) = true := bne_iff_ne.mpr c32
                  simp only [Option.some.injEq, Prod.mk.injEq] at H
                  obtain ⟨rfl, rfl, rfl⟩ := H
                  go_wp2_with (first | ((with_reducible refine gate_callee (f := 19) rfl ?_); refine goesL_ (some 70) rfl rfl Try.func19 (by kernel_rfl) rfl #[.pointer (some ⟨g, 0, none⟩)] rfl (by (try simp only [List.map_toArray, List.map_cons, List.map_nil]); first | done | rfl | (simp only [List.length_drop, List.length_take]; rfl)) ?_; (with_reducible refine (sector_Disk_Flush.calls g x1000_2 t131 t132 w0 _ ?side1 ?side2 A31.out).mono ?_); (case side1 => repeat (first | (with_reducible first | exact HI0.out | apply IsS67.alloc | apply IsS67.drewN | apply IsS67.drew) | exact HI0.out)); (case side2 => repeat (first | (with_reducible first | exact HB.out | apply below_alloc | apply pw_below_drewN | apply below_drew1 | refine below_set ?_ (IsS67.ge HI0.out)) | exact HB.out)); rintro e w52 ⟨rfl, hi, hb, hk⟩; refine ⟨_, rfl, ?_⟩; have n0_ := Aside0.mk (Go.Proofs.Ytjaibpphlbddoaa.Opq.KeepO.trans (by repeat (first | (with_reducible first | exact HK.out | apply Go.Proofs.Ytjaibpphlbddoaa.Opq.KeepO.drewN | apply Go.Proofs.Ytjaibpphlbddoaa.Opq.KeepO.drew | apply Go.Proofs.Ytjaibpphlbddoaa.Opq.KeepO.alloc) | exact HK.out)) hk); have n1_ := Aside0.mk (hb); have n2_ := Aside0.mk (hi); clear HK; clear HB; clear HI0; have HK := n0_; have HB := n1_; have HI0 := n2_; clear n0_ n1_ n2_; (try clear hb); (try clear hb2); (try clear hk); (try clear hi)))
                  go_ret2
                  exact ⟨by first | rfl | (simp [errW_none, errW_some] <;> rfl) | (simp only [← hji13]; first | rfl | (simp [errW_none, errW_some] <;> rfl)) | (simp [*, errW_none, errW_some] <;> rfl), by repeat (first | (with_reducible first | exact HI0.out | apply IsS67.alloc | apply IsS67.drewN | apply IsS67.drew) | exact HI0.out), by repeat (first | (with_reducible first | exact HB.out | apply below_alloc | apply pw_below_drewN | apply below_drew1 | refine below_set ?_ (IsS67.ge HI0.out)) | exact HB.out), by repeat (first | (with_reducible first | exact HK.out | apply Go.Proofs.Ytjaibpphlbddoaa.Opq.KeepO.drewN | apply Go.Proofs.Ytjaibpphlbddoaa.Opq.KeepO.drew | apply Go.Proofs.Ytjaibpphlbddoaa.Opq.KeepO.alloc) | exact HK.out)⟩

/-! ### bytes_Clone: function 37 -/
-- FN rounds=0 making=1
-- IMPORT Derived.Lib.LazyBuf
def bytes_Clone.f (l0 : List Int) : Option (List Int) := if l0.length < 140737488355328 then some l0 else none
set_option maxHeartbeats 8000000 in
set_option maxRecDepth 100000 in
theorem bytes_Clone.calls (A0 : Option Addr) (c0 : Nat) (l0 : List Int) (r : List Int) (w : World) (hr0 : Kd.C (Kd.int .u8) w A0 l0.length l0) (hc0 : l0.length ≤ c0) (h : bytes_Clone.f l0 = some r) :
    Calls Try.prog 37 #[.slice A0 l0.length c0] w fun e w' => ∃ v0_ : Value, e = .returned (v0_) ∧ Kd.R (Kd.int .u8) 5 w' w.heap.size (fun _ => True) v0_ r ∧ Below w.heap.size w w' := by
  have hb : l0.length < 140737488355328 := by
    unfold bytes_Clone.f at h
    split at h
    · assumption
    · cases h
  obtain rfl : r = l0 := by
    unfold bytes_Clone.f at h
    rw [if_pos hb] at h
    exact (Option.some.inj h).symm
  have HR := Aside0.mk hr0
  have HC := Aside0.mk hc0
  have HB := Aside0.mk hb
  have HE := Aside0.mk (Below.refl w.heap.size w)
  clear hr0 hc0 hb h
  cases A0 with
  | none =>
    have hn : ∀ w, (binOp .eql 22 (.slice none r.length c0) (.slice none 0 0)).run Try.prog w = .ok (.bool true) w := fun w => run_eql_slice_nil w 22 5 none r.length c0 Try.underlying22
    have HN : Aside0 (r = []) := Aside0.mk <| by
      cases r with
      | nil => rfl
      | cons x l =>
        obtain ⟨ad, e, _⟩ := HR.out.2.2 (by simp)
        cases e
    go_enter Try.func37, Try.ntmps37
    go_wp2
    go_ret
    exact ⟨_, rfl, by rw [HN.out]; exact Kd.R_nil _ _ _ _ _, HE.out⟩
  | some ad =>
    have hn : ∀ w, (binOp .eql 22 (.slice (some ad) r.length c0) (.slice none 0 0)).run Try.prog w = .ok (.bool false) w := fun w => run_eql_slice_nil w 22 5 (some ad) r.length c0 Try.underlying22
    go_enter Try.func37, Try.ntmps37
    go_wp2_with (first | ((with_reducible refine gate_dst (N := 5) rfl ?_); refine Kd.R_lit (Kd.int .u8) _ 5 ?hg (N := 5) ?hd (xs := ([] : List Int)) (inner := []) (ok := fun _ => True) (okp := fun _ => True) ?hr ?hp (fun _ hk => hk) trivial (Below.refl _ _) (Nat.le_refl _) (by simp) ?_; (case hd => rfl); (case hg => rfl); (case hr => first | (go_simp; done) | (go_simp; rfl)); (case hp => exact (Reps.none _ _)); intro v5 w5 ho5 hb5 hg_ hnew_; have HO5 := Aside0.mk (Kd.R_lower ho5 (show w.heap.size ≤ _ from by first | exact Nat.le_refl _ | simp)); have HE5 := Aside0.mk hb5; have HR5 := Aside0.mk (Kd.C_below HR.out hb5); clear ho5 hb5) | ((with_reducible refine gate_builtin (b := .append) (xs := #[.tmp 5, .tmp 6]) rfl ?_); (try (refine gate_guard (by rfl) ?_; dsimp only)); at_builtin; refine Kd.R_append_rows (Kd.int .u8) (w0 := w) w.heap.size rfl (.tmp 5) (.tmp 6) 22 5 (.int .u8 0) 1 rfl Try.underlying22 (show (Try.prog.info? 5).map (fun i => (i.zero, i.size, i.bytes)) = some (some (.int .u8 0), 1, 1) from by kernel_rfl) rfl (by decide) (by omega) v5 ([] : List Int) r _ _ _ (fun _ => True) (fun _ => False) rfl rfl ?aO ?aR (fun _ _ h => h) (fun _ h => h.elim) ?aF ?aB ?aS ?aL ?_; (case aR => exact HR5.out); (case aB => exact HE5.out); (case aF => exact fun _ _ => trivial); (case aO => exact HO5.out); (case aS => exact HE5.out.size); (case aL => have := HB.out; rw [List.length_nil]; omega); intro v7 w7 ho hb hg hat; rw [List.nil_append] at ho; have HO7 := Aside0.mk ho; have HE7 := Aside0.mk hb; clear ho hb hg hat))
    go_ret
    exact ⟨_, rfl, HO7.out, HE7.out⟩


end Go.Proofs.Ytjaibpphlbddoaa.PRegionTorn
