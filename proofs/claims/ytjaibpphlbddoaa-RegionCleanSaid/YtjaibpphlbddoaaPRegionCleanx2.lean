-- Lean text by a program of this repo (wip/tools/printx.py), out of Lean's own print of the translation
import Derived.Test.YtjaibpphlbddoaaHelp
import Derived.Lib.LazyBuf
import Derived.Deep.MidRow
import Derived.Deep.RegionHeld3
import Derived.Test.YtjaibpphlbddoaaMid
import Derived.Test.YtjaibpphlbddoaaPRegionCleanx0
import Derived.Test.YtjaibpphlbddoaaPRegionCleanx1
namespace Go.Proofs.Ytjaibpphlbddoaa.PRegionClean
open Go.RowKit Go.Proofs.YtjaibpphlbddoaaW.PrintWords Go.Proofs.YtjaibpphlbddoaaW.PrintLast Go.Proofs.YtjaibpphlbddoaaW.PrintMore
attribute [local go_sem] max2_int min2_int max_two min_two max_three min_three max_four min_four   -- for this text's walks alone
set_option linter.unusedVariables false
set_option linter.unusedSimpArgs false

/-! ### sector_Disk_Flush: function 19 -/
-- FN rounds=0 making=1
-- IMPORT Derived.Test.YtjaibpphlbddoaaMid
-- IMPORT Derived.Deep.RegionHeld3
-- IMPORT Derived.Deep.MidRow
def sector_Disk_Flush.f (s : Disk.DiskM)  : Option (Int × Disk.DiskM) := if s.loose.length < 1000000 then some (Disk.flush s) else none
set_option maxHeartbeats 8000000 in
set_option maxRecDepth 100000 in
open Go.Proofs.Ytjaibpphlbddoaa.Opq Go.Proofs.Ytjaibpphlbddoaa.Mid in
theorem sector_Disk_Flush.calls (g : Nat) (s0_0 : Disk.DiskM)  (r1 : Int) (r2 : Disk.DiskM) (w0 w : World) (hI : IsS67 w0 w g s0_0) (hB : Below w0.heap.size w0 w) (h : sector_Disk_Flush.f s0_0  = some (r1, r2)) :
    Calls Try.prog 19 #[.pointer (some ⟨g, 0, none⟩)] w fun e w' => e = .returned (.int .i64 r1) ∧ IsS67 w0 w' g r2 ∧ Below w0.heap.size w0 w' ∧ Go.Proofs.Ytjaibpphlbddoaa.Opq.KeepO ts67 w0.heap.size w w' := by
  unfold sector_Disk_Flush.f at h
  split at h
  case isFalse => cases h
  case isTrue hlen =>
  have h := Option.some.inj h
  have HI := Aside0.mk hI
  have HB := Aside0.mk hB
  have HL := Aside0.mk hlen
  clear hI hlen hB
  unfold Disk.flush at h
  cases hd : (Disk.burn s0_0).down with
  | true =>
    rw [if_pos hd] at h
    injection h with h1 h2
    subst h1 h2
    have HX := Aside0.mk (sector_Disk_burn.calls g s0_0 false (Disk.burn s0_0) w0 w HI.out HB.out (by unfold sector_Disk_burn.f; rw [hd]; rfl))
    clear hd
    go_enter Try.func19, Try.ntmps19
    go_wp2_with (go_at_call 35; refine HX.out.mono ?_; rintro e w1 ⟨rfl, hr⟩; have HR1 := Aside0.mk hr; clear hr)
    go_ret
    exact ⟨rfl, HR1.out⟩
  | false =>
    rw [if_neg (by rw [hd]; simp)] at h
    injection h with h1 h2
    subst h1 h2
    have HX := Aside0.mk (sector_Disk_burn.calls g s0_0 true (Disk.burn s0_0) w0 w HI.out HB.out (by unfold sector_Disk_burn.f; rw [hd]; rfl))
    clear hd
    have hu := Try.underlying71
    have HSZ := Aside0.mk (show (Try.prog.info? 71).map (·.size) = some 65 by kernel_rfl)
    have HU := Aside0.mk hu
    clear hu
    go_enter Try.func19, Try.ntmps19
    go_wp2_with fail
    refine HX.out.mono ?_
    rintro e w1 ⟨rfl, hi, hb, hk⟩
    obtain ⟨gl, vo, hg, hge, hgb, hgl, hown, hok⟩ := hi
    obtain ⟨Av, cv, rfl, _⟩ := disk_loose_nil hown
    have hcell1 : w1.cell? ⟨g, 1, none⟩ = some (.slice Av s0_0.loose.length cv) := (blk_cell hg 1).trans rfl
    have HALL := Aside0.mk (And.intro hg (And.intro hge (And.intro hgb (And.intro hgl (And.intro hown hok)))))
    have HB1 := Aside0.mk hb
    have HK1 := Aside0.mk hk
    clear HX hg hge hgb hgl hown hok hb hk
    go_wp2_with fail
    go_loopg [17] (s0_0.loose.length + 1) (fun kq v17 wr => ∃ k : Nat, v17 = .int .i64 k ∧ Aside0 (k + kq = s0_0.loose.length + 1) ∧ Aside0 (w1.grownBy wr (some gl)) ∧ Aside0 (wr.heap[gl]? = some (.cells (Disk.bytes (Disk.settle (s0_0.loose.take k) s0_0.lasts)).toArray 69 (0, 0))))
    case atStart =>
      exact ⟨0, rfl, ⟨by omega⟩, ⟨⟨rfl, rfl, rfl, Nat.le_refl _, fun _ _ _ => rfl⟩⟩, ⟨HALL.out.2.2.2.1⟩⟩
    case round =>
      obtain ⟨k, rfl, HQ, HG, HLL⟩ := hrel
      by_cases hlt : k < s0_0.loose.length
      · have d0 : decide (k < s0_0.loose.length) = true := decide_eq_true hlt
        obtain ⟨go, cap, cur, hv, hgo, hh, hc, hcells⟩ : ∃ go cap cur, Value.slice Av s0_0.loose.length cv = .slice (some ⟨go, 0, none⟩) s0_0.loose.length cap ∧ w0.heap.size ≤ go ∧ w1.heap[go]? = some (.cells cur 71 (0, 0)) ∧ s0_0.loose.length ≤ cap ∧
          ∀ (k : Nat) (hk : k < s0_0.loose.length) j v, (Value.int .i64 (s0_0.loose[k]).1 :: Disk.bytes (s0_0.loose[k]).2)[j]? = some v → cur.toList[k * 65 + j]? = some v := disk_loose (s := Disk.burn s0_0) HALL.out.2.2.2.2.1 HALL.out.2.2.2.2.2 (show 0 < s0_0.loose.length by omega)
        injection hv with hA _ hcv
        subst hA hcv
        have q0 : (0 : Int) ≤ (k : Int) := by omega
        have q1 : (k : Int) < (s0_0.loose.length : Int) := by omega
        have hgogl : go ≠ gl := fun e => by
          subst e
          have h3 := HALL.out.2.2.2.1
          rw [hh] at h3
          injection h3 with hc
          injection hc with _ hc
          exact absurd hc (by decide)
        have HH := Aside0.mk ((HG.out.block go (blk_lt hh) (fun e => by injection e with e; exact hgogl e)).trans hh)
        have HC := Aside0.mk (fun j v => hcells k hlt j v)
        have HOK := Aside0.mk (HALL.out.2.2.2.2.2.loose s0_0.loose[k] (List.getElem_mem hlt))
        have HT := Aside0.mk hlt
        have HW := Aside0.mk (show s0_0.loose.take (k + 1) = s0_0.loose.take k ++ [s0_0.loose[k]] from List.take_succ_eq_append_getElem hlt)
        generalize s0_0.loose[k] = p at HC HW HOK
        obtain ⟨pa, b⟩ := p
        obtain ⟨m, rfl⟩ := Int.eq_ofNat_of_zero_le HOK.out.1
        have HE := Aside0.mk (show (Value.int .i64 (m : Int) :: Disk.bytes b).length = 65 by
          have := HOK.out.2.2
          simp [Disk.bytes, this])
        clear hlt hgo hh hc hcells hgogl
        cases gk with
        | zero => exact absurd HQ.out (by have := HT.out; omega)
        | succ k1 =>
        go_wp2_with (first
          | ((with_reducible refine gate_dst (N := 20) rfl ?_); refine load_blk rfl 71 (.tmp 19) rfl (Value.int .i64 (m : Int) :: Disk.bytes b) _ (by rfl) HH.out HC.out HU.out rfl (by rw [HE.out]; exact HSZ.out) ?_)
          | ((with_reducible refine gate_dst (N := 4) rfl ?_); refine box_event rfl (N := 4) rfl (cs := (Value.int .i64 0 :: Disk.bytes (List.replicate 64 0)).toArray) (t := 71) (by kernel_rfl) ?_; intro gb hgb w5 hbox hb5; have HX := Aside0.mk hbox; have HB5 := Aside0.mk hb5; have HGB := Aside0.mk hgb; clear hgb hbox hb5)
          | ((with_reducible refine gate_store (t := 71) (p := 4) rfl ?_); refine store_new rfl 71 (.tmp 4) (.tmp 20) rfl (Value.int .i64 (m : Int) :: Disk.bytes b) (by rfl) (by rfl) HX.out (by rw [HE.out]; rfl) (by rw [HE.out]; exact HSZ.out) (elem_one ((m : Int), b)) ?_; intro w6 hx6 hg6 hs6; have HX6 := Aside0.mk hx6; have HB6 := Aside0.mk (show Below wr.heap.size wr w6 from HB5.out.grown hg6 HB5.out.size (fun k e => by injection e with e; have := HGB.out; omega)); clear hx6 hg6 hs6))
        obtain ⟨n, hn⟩ : ∃ n, n = s0_0.lasts.length / 64 := ⟨_, rfl⟩
        obtain ⟨bb, hbb⟩ : ∃ bb, bb = Disk.bytes b := ⟨_, rfl⟩
        have hbl : bb.length = 64 := by rw [hbb, Disk.bytes_length]; exact HOK.out.2.2
        have p0 : (0 : Int) ≤ (m : Int) := by omega
        have hmn : m < n := by have h2 : (m : Int) < ((s0_0.lasts.length / 64 : Nat) : Int) := HOK.out.2.1; omega
        have p1 : (m : Int) < (n : Int) := by omega
        have HGR6 := Aside0.mk (show w1.grownBy w6.drew (some gl) from grown_below HG.out (show Below wr.heap.size wr w6.drew from ⟨HB6.out.1, HB6.out.2, HB6.out.3, HB6.out.4, HB6.out.5⟩))
        have hL6 : w6.drew.heap[gl]? = some (.cells (Disk.bytes (Disk.settle (s0_0.loose.take k) s0_0.lasts)).toArray 69 (0, 0)) := (HB6.out.block gl (blk_lt HLL.out)).trans HLL.out
        have hbo := Disk.there_in (s := Disk.burn s0_0) HALL.out.2.2.2.2.2 (at_ := (m : Int)) (by unfold Disk.there; rw [decide_eq_true HOK.out.1, decide_eq_true HOK.out.2.1]; rfl)
        have hLl : (Disk.settle (s0_0.loose.take k) s0_0.lasts).length = s0_0.lasts.length := settle_length (fun p hp => by
            have h2 := HALL.out.2.2.2.2.2.loose p (List.mem_of_mem_take hp)
            have h3 := Disk.there_in HALL.out.2.2.2.2.2 (at_ := p.1) (by unfold Disk.there; rw [decide_eq_true h2.1, decide_eq_true h2.2.1]; rfl)
            exact ⟨h3.2.2, h2.2.2⟩)
        have hoff : m * 64 + b.length ≤ (Disk.settle (s0_0.loose.take k) s0_0.lasts).length := by rw [hLl]; have := hbo.2.2; have := HOK.out.2.2; simp at *; omega
        have HPUT := Aside0.mk (put_world hL6 hoff)
        rw [← hbb] at HPUT
        have hgw : w6.drew.heap[g]? = _ := (HGR6.out.block g (blk_lt HALL.out.1) (fun e => by injection e with e; exact disk_ne HALL.out.1 HALL.out.2.2.2.1 e)).trans HALL.out.1
        have hS := disk_step (n := n) (m := m) (bb := bb) (show w6.drew.heap[g]? = _ from hn ▸ hgw) hL6 HX6.out hbb (by omega) (disk_ne HALL.out.1 HALL.out.2.2.2.1) (show gb ≠ gl from fun e => by subst e; have := blk_lt HLL.out; have := HGB.out; omega) hbl
        have hSd := hS.1
        have hSs := hS.2
        have hi : (Try.prog.info? 69).map (·.size) = some bb.length := by rw [hbl]; kernel_rfl
        have hu := Try.underlying69
        have h1 : ∀ v ∈ bb, v.oneCell' = true := by rw [hbb]; intro v hv; unfold Disk.bytes at hv; obtain ⟨x, _, rfl⟩ := List.mem_map.1 hv; rfl
        have HGX := Aside0.mk (show w1.grownBy (w6.drew.setCells gl (m * 64) bb) (some gl) from grown_row HGR6.out (grown_setCells gl (m * 64) bb _))
        have HBB := Aside0.mk hbb
        clear hS hgw hoff hLl hbo hL6 hbb hn hmn
        go_region_held3 (fun w' => w'.cell? ⟨g, 0, none⟩ = some (.slice (some ⟨gl, 0, none⟩) n n) ∧ w'.cell? ⟨gb, 0, none⟩ = some (.int .i64 (m : Int)) ∧ w'.rangeAt gb 1 bb ∧ w'.there gl (m * 64) bb.length) (first | exact hSd | exact hSs) (fail)
        clear hSd hSs hu hi h1
        go_wp2
        go_roundg k1
        case measure => omega
        case rel => exact ⟨k + 1, (by rw [show RowKit.wrap64 ((k : Int) + 1) = ((k + 1 : Nat) : Int) by have := HL.out; have := HT.out; unfold RowKit.wrap64; omega]), ⟨by have := HQ.out; omega⟩, HGX, ⟨by rw [HW.out, settle_snoc]; exact HPUT.out⟩⟩
      · have d0 : decide (k < s0_0.loose.length) = false := decide_eq_false hlt
        have HT := Aside0.mk (show s0_0.loose.length ≤ k by omega)
        clear hlt
        have hgw : wr.heap[g]? = _ := (HG.out.block g (blk_lt HALL.out.1) (fun e => by injection e with e; exact disk_ne HALL.out.1 HALL.out.2.2.2.1 e)).trans HALL.out.1
        have hcg : wr.cell? ⟨g, 1, none⟩ = some (.slice Av s0_0.loose.length cv) := (blk_cell hgw 1).trans rfl
        have hfg : wr.frozen? ⟨g, 1, none⟩ = false := blk_frozen hgw 1
        have HGW := Aside0.mk hgw
        clear hgw
        go_wp2
        go_ret
        have hfin := disk_landed (s := Disk.burn s0_0) (W := wr.setCell ⟨g, 1, none⟩ (.slice none 0 0)) (L := Disk.settle s0_0.loose s0_0.lasts) (f := (Disk.burn s0_0).fuse) (dn := (Disk.burn s0_0).down) HALL.out HB1.out HG.out (by have := HLL.out; rw [List.take_of_length_le HT.out] at this; exact this)
          (settle_length (fun p hp => by
            have h2 := HALL.out.2.2.2.2.2.loose p hp
            have h3 := Disk.there_in HALL.out.2.2.2.2.2 (at_ := p.1) (by unfold Disk.there; rw [decide_eq_true h2.1, decide_eq_true h2.2.1]; rfl)
            exact ⟨h3.2.2, h2.2.2⟩))
          (by simpa using blk_set HGW.out 1 (.slice none 0 0)) (fun k hk => Below.heap_setCell _ _ _ _ hk) (by simp [World.setCell]) ⟨rfl, rfl, rfl⟩
        exact ⟨rfl, hfin.1, hfin.2.1, HK1.out.trans hfin.2.2⟩


/-! ### bytes_Clone: function 37 -/
-- FN rounds=0 making=1
-- IMPORT Derived.Lib.LazyBuf
def bytes_Clone.f (l0 : List Int) : Option (List Int) := if l0.length < 140737488355328 then some l0 else none
set_option maxHeartbeats 8000000 in
set_option maxRecDepth 100000 in
theorem bytes_Clone.calls (A0 : Option Addr) (c0 : Nat) (l0 : List Int) (r : List Int) (w : World) (hr0 : Kd.C (Kd.int .u8) w A0 l0.length l0) (hc0 : l0.length ≤ c0) (h : bytes_Clone.f l0 = some r) :
    Calls Try.prog 37 #[.slice A0 l0.length c0] w fun e w' => ∃ v0_ : Value, e = .returned (v0_) ∧ Kd.R (Kd.int .u8) 5 w' w.heap.size (fun _ => True) v0_ r ∧ Below w.heap.size w w' := by
  have hb : l0.length < 140737488355328 := by
    unfold bytes_Clone.f at h
    split at h
    · assumption
    · cases h
  obtain rfl : r = l0 := by
    unfold bytes_Clone.f at h
    rw [if_pos hb] at h
    exact (Option.some.inj h).symm
  have HR := Aside0.mk hr0
  have HC := Aside0.mk hc0
  have HB := Aside0.mk hb
  have HE := Aside0.mk (Below.refl w.heap.size w)
  clear hr0 hc0 hb h
  cases A0 with
  | none =>
    have hn : ∀ w, (binOp .eql 22 (.slice none r.length c0) (.slice none 0 0)).run Try.prog w = .ok (.bool true) w := fun w => run_eql_slice_nil w 22 5 none r.length c0 Try.underlying22
    have HN : Aside0 (r = []) := Aside0.mk <| by
      cases r with
      | nil => rfl
      | cons x l =>
        obtain ⟨ad, e, _⟩ := HR.out.2.2 (by simp)
        cases e
    go_enter Try.func37, Try.ntmps37
    go_wp2
    go_ret
    exact ⟨_, rfl, by rw [HN.out]; exact Kd.R_nil _ _ _ _ _, HE.out⟩
  | some ad =>
    have hn : ∀ w, (binOp .eql 22 (.slice (some ad) r.length c0) (.slice none 0 0)).run Try.prog w = .ok (.bool false) w := fun w => run_eql_slice_nil w 22 5 (some ad) r.length c0 Try.underlying22
    go_enter Try.func37, Try.ntmps37
    go_wp2_with (first | ((with_reducible refine gate_dst (N := 5) rfl ?_); refine Kd.R_lit (Kd.int .u8) _ 5 ?hg (N := 5) ?hd (xs := ([] : List Int)) (inner := []) (ok := fun _ => True) (okp := fun _ => True) ?hr ?hp (fun _ hk => hk) trivial (Below.refl _ _) (Nat.le_refl _) (by simp) ?_; (case hd => rfl); (case hg => rfl); (case hr => first | (go_simp; done) | (go_simp; rfl)); (case hp => exact (Reps.none _ _)); intro v5 w5 ho5 hb5 hg_ hnew_; have HO5 := Aside0.mk (Kd.R_lower ho5 (show w.heap.size ≤ _ from by first | exact Nat.le_refl _ | simp)); have HE5 := Aside0.mk hb5; have HR5 := Aside0.mk (Kd.C_below HR.out hb5); clear ho5 hb5) | ((with_reducible refine gate_builtin (b := .append) (xs := #[.tmp 5, .tmp 6]) rfl ?_); (try (refine gate_guard (by rfl) ?_; dsimp only)); at_builtin; refine Kd.R_append_rows (Kd.int .u8) (w0 := w) w.heap.size rfl (.tmp 5) (.tmp 6) 22 5 (.int .u8 0) 1 rfl Try.underlying22 (show (Try.prog.info? 5).map (fun i => (i.zero, i.size, i.bytes)) = some (some (.int .u8 0), 1, 1) from by kernel_rfl) rfl (by decide) (by omega) v5 ([] : List Int) r _ _ _ (fun _ => True) (fun _ => False) rfl rfl ?aO ?aR (fun _ _ h => h) (fun _ h => h.elim) ?aF ?aB ?aS ?aL ?_; (case aR => exact HR5.out); (case aB => exact HE5.out); (case aF => exact fun _ _ => trivial); (case aO => exact HO5.out); (case aS => exact HE5.out.size); (case aL => have := HB.out; rw [List.length_nil]; omega); intro v7 w7 ho hb hg hat; rw [List.nil_append] at ho; have HO7 := Aside0.mk ho; have HE7 := Aside0.mk hb; clear ho hb hg hat))
    go_ret
    exact ⟨_, rfl, HO7.out, HE7.out⟩


/-! ### sector_Disk_Lasts: function 20 -/
-- FN rounds=0 making=1
def sector_Disk_Lasts.f (s : Disk.DiskM) (a1 : Int) : Option (List Int × Int × Disk.DiskM) := if Disk.there s a1 = true then some (Disk.sector s.lasts a1, 0, s) else some ([], 1, s)
theorem clone_64 {w : World} {A : Option Addr} {l : List Int} (hl : l.length = 64) (hC : Kd.C (Kd.int .u8) w A 64 l) :
    Calls Try.prog 37 #[.slice A 64 64] w fun e w' => ∃ v0_ : Value, e = .returned (v0_) ∧ Kd.R (Kd.int .u8) 5 w' w.heap.size (fun _ => True) v0_ l ∧ Below w.heap.size w w' := by
  have h := bytes_Clone.calls A 64 l l w (by rw [hl]; exact hC) (by rw [hl]; exact Nat.le_refl _) (by unfold bytes_Clone.f; rw [if_pos (by rw [hl]; decide)])
  rw [hl] at h
  exact h
theorem disk_row {w : World} {g off n : Nat} {l : List Int} {t : TypeId} {fr : Nat × Nat} (hb : w.heap[g]? = some (.cells (Disk.bytes l).toArray t fr)) (h : off + n ≤ l.length) (hn : n ≤ 9223372036854775807) : Kd.C (Kd.int .u8) w (some ⟨g, off, none⟩) n ((l.drop off).take n) := by
  refine Kd.C_of_reads (d := 0) ⟨by rw [List.length_take, List.length_drop]; omega, hn, fun _ => ⟨_, rfl, fun j hj => ?_⟩⟩
  have hj2 : (Disk.bytes l)[off + j]? = some (.int .u8 (l.getD (off + j) 0)) := Disk.bytes_get (by omega)
  have hc : w.cell? ⟨g, off + j, none⟩ = some (.int .u8 (l.getD (off + j) 0)) := by
    simp only [World.cell?, hb]
    simpa using hj2
  have he : (⟨g, off, none⟩ : Addr).add j = ⟨g, off + j, none⟩ := by unfold Addr.add; split <;> simp_all
  rw [he, hc, List.getD_eq_getElem?_getD (l := (l.drop off).take n), List.getElem?_take, if_pos (by omega), List.getElem?_drop, ← List.getD_eq_getElem?_getD]
set_option maxHeartbeats 2000000 in
open Go.Proofs.Ytjaibpphlbddoaa.Opq in
theorem sector_Disk_Lasts.calls (g : Nat) (s0_0 : Disk.DiskM) (a1 : Int) (r1 : List Int) (r2 : Int) (r3 : Disk.DiskM) (w0 w : World) (hI : IsS67 w0 w g s0_0) (hB : Below w0.heap.size w0 w) (h : sector_Disk_Lasts.f s0_0 a1 = some (r1, r2, r3)) :
    Calls Try.prog 20 #[.pointer (some ⟨g, 0, none⟩), .int .i64 a1] w fun e w' => ∃ v0_ : Value, e = .returned (.tuple #[v0_, .int .i64 r2]) ∧ Kd.R (Kd.int .u8) 5 w' w.heap.size (fun _ => True) v0_ r1 ∧ IsS67 w0 w' g r3 ∧ Below w0.heap.size w0 w' ∧ Go.Proofs.Ytjaibpphlbddoaa.Opq.KeepO ts67 w0.heap.size w w' := by
  unfold sector_Disk_Lasts.f at h
  have HI := Aside0.mk hI
  obtain ⟨gl, vo, hg, hge, hgb, hgl, hown, hok⟩ := hI
  have hcell : w.cell? ⟨g, 0, none⟩ = some (.slice (some ⟨gl, 0, none⟩) (s0_0.lasts.length / 64) (s0_0.lasts.length / 64)) := (blk_cell hg 0).trans rfl
  have HB := Aside0.mk hB
  cases ht : Disk.there s0_0 a1 with
  | false =>
    rw [ht, if_neg (by simp)] at h
    have h := Option.some.inj h
    injection h with h1 h
    injection h with h2 h3
    subst h1 h2 h3
    have HT := Aside0.mk ht
    clear hg hge hgb hgl hown hok hB ht h
    go_enter Try.func20, Try.ntmps20
    go_wp2_with (go_at_call 34; refine (sector_Disk_there.calls0 g s0_0 a1 w0 _ HI.out).mono ?_; rw [HT.out]; rintro e w' ⟨rfl, rfl⟩)
    go_ret2
    exact ⟨_, rfl, Kd.R_nil _ _ _ _ _, HI.out, HB.out, KeepO.refl _ _ _⟩
  | true =>
    rw [ht, if_pos rfl] at h
    have h := Option.some.inj h
    injection h with h1 h
    injection h with h2 h3
    subst h1 h2 h3
    obtain ⟨p0, p1, p2⟩ := Disk.there_in hok ht
    have HT := Aside0.mk ht
    have HC := Aside0.mk (disk_row hgl (off := a1.toNat * 64) (n := 64) p2 (by omega))
    have HS := Aside0.mk (Disk.sector_length p2)
    have HX := Aside0.mk (clone_64 HS.out HC.out)
    clear hg hge hgb hgl hown hok hB ht h p2
    go_enter Try.func20, Try.ntmps20
    go_wp2_with (first | (go_at_call 34; refine (sector_Disk_there.calls0 g s0_0 a1 w0 _ HI.out).mono ?_; rw [HT.out]; rintro e w' ⟨rfl, rfl⟩) | (go_at_call 37; refine HX.out.mono ?_; rintro e w1 ⟨v0, rfl, ho0, hb⟩; have HO := Aside0.mk ho0; have HB1 := Aside0.mk hb; clear ho0 hb))
    go_ret2
    exact ⟨_, rfl, HO.out, HI.out.below HB1.out, below_weaken HB.out HB.out.size HB1.out, KeepO.of_below HB1.out⟩


/-! ### sector_Disk_Pending: function 36 -/
-- FN rounds=0 making=1
-- IMPORT Derived.Test.YtjaibpphlbddoaaMid
-- IMPORT Derived.Test.YtjaibpphlbddoaaHelp
def sector_Disk_Pending.f (s : Disk.DiskM) : Option (List Int × Disk.DiskM) := if s.loose.length < 1000000 then some (s.loose.map (·.1), s) else none
set_option maxHeartbeats 2000000 in
set_option maxRecDepth 100000 in
open Go.Proofs.Ytjaibpphlbddoaa.Opq Go.Proofs.Ytjaibpphlbddoaa.Mid in
theorem sector_Disk_Pending.calls0 (g : Nat) (s : Disk.DiskM) (w0 w : World) (hI : IsS67 w0 w g s) (hlen : s.loose.length < 1000000) :
    Calls Try.prog 36 #[.pointer (some ⟨g, 0, none⟩)] w fun e w' => ∃ v0_ : Value, e = .returned v0_ ∧ Kd.R (Kd.int .i64) 3 w' w.heap.size (fun _ => True) v0_ (s.loose.map (·.1)) ∧ Below w.heap.size w w' := by
  obtain ⟨gl, vo, hg, hge, hgb, hgl, hown, hok⟩ := hI
  obtain ⟨Av, cv, rfl, _⟩ := disk_loose_nil hown
  have hcell : w.cell? ⟨g, 1, none⟩ = some (.slice Av s.loose.length cv) := (blk_cell hg 1).trans rfl
  have HO := Aside0.mk hown
  have HK := Aside0.mk hok
  have HL := Aside0.mk hlen
  have hu := Try.underlying71
  have HSZ := Aside0.mk (show (Try.prog.info? 71).map (·.size) = some 65 by kernel_rfl)
  have HU := Aside0.mk hu
  clear hg hge hgb hgl hown hok hlen hu
  go_enter Try.func36, Try.ntmps36
  go_wp2
  go_loopg [3, 13] (s.loose.length + 1) (fun kq v3 v13 wr => ∃ k : Nat, v13 = .int .i64 k ∧ Aside0 (k + kq = s.loose.length + 1) ∧ Aside0 (Kd.R (Kd.int .i64) 3 wr w.heap.size (fun _ => True) v3 ((s.loose.take k).map (·.1))) ∧ Aside0 (Below w.heap.size w wr))
  case atStart => exact ⟨0, rfl, ⟨by omega⟩, ⟨by simpa using Kd.R_nil _ _ _ _ _⟩, ⟨Below.refl _ _⟩⟩
  case round =>
    obtain ⟨k, rfl, HQ, HR, HB⟩ := hrel
    by_cases hlt : k < s.loose.length
    · have d0 : decide (k < s.loose.length) = true := decide_eq_true hlt
      obtain ⟨go, cap, cur, hv, hgo, hh, hc, hcells⟩ := disk_loose HO.out HK.out (by omega)
      injection hv with hA _ hcv
      subst hA hcv
      have q0 : (0 : Int) ≤ (k : Int) := by omega
      have q1 : (k : Int) < (s.loose.length : Int) := by omega
      have HH := Aside0.mk ((HB.out.block go (blk_lt hh)).trans hh)
      have HC := Aside0.mk (fun j v => hcells k hlt j v)
      have HE := Aside0.mk (show (Value.int .i64 (s.loose[k]).1 :: Disk.bytes (s.loose[k]).2).length = 65 by
        have := (HK.out.loose s.loose[k] (List.getElem_mem hlt)).2.2
        simp [Disk.bytes, this])
      have HT := Aside0.mk hlt
      have HW := Aside0.mk (show s.loose.take (k + 1) = s.loose.take k ++ [s.loose[k]] from List.take_succ_eq_append_getElem hlt)
      generalize s.loose[k] = p at HC HE HW
      clear hlt hgo hh hc hcells
      cases gk with
      | zero => exact absurd HQ.out (by have := HT.out; omega)
      | succ k1 =>
      go_wp2_with (first
        | ((with_reducible refine gate_dst (N := 16) rfl ?_); refine load_blk rfl 71 (.tmp 15) rfl (Value.int .i64 p.1 :: Disk.bytes p.2) _ (by rfl) HH.out HC.out HU.out rfl (by rw [HE.out]; exact HSZ.out) ?_)
        | ((with_reducible refine gate_dst (N := 5) rfl ?_); refine box_event rfl (N := 5) rfl (cs := (Value.int .i64 0 :: Disk.bytes (List.replicate 64 0)).toArray) (t := 71) (by kernel_rfl) ?_; intro gb hgb w5 hbox hb5; have HX := Aside0.mk hbox; have HB5 := Aside0.mk hb5; have HGB := Aside0.mk hgb; clear hgb hbox hb5)
        | ((with_reducible refine gate_store (t := 71) (p := 5) rfl ?_); refine store_new rfl 71 (.tmp 5) (.tmp 16) rfl (Value.int .i64 p.1 :: Disk.bytes p.2) (by rfl) (by rfl) HX.out (by rw [HE.out]; rfl) (by rw [HE.out]; exact HSZ.out) (elem_one p) ?_; intro w6 hx6 hg6 hs6; have hc6 : w6.cell? ⟨gb, 0, none⟩ = some (.int .i64 p.1) := (blk_cell hx6 0).trans rfl; have HB6 := Aside0.mk (show Below wr.heap.size wr w6 from HB5.out.grown hg6 HB5.out.size (fun k e => by injection e with e; have := HGB.out; omega)); clear hx6 hg6 hs6)
        | ((with_reducible refine gate_builtin (b := .append) (xs := #[.tmp 17, .tmp 20]) rfl ?_); at_builtin; refine Kd.R_append (Kd.int .i64) (w0 := w) w.heap.size rfl (.tmp 17) (.tmp 20) 72 3 (.int .i64 0) 8 rfl Try.underlying72 (show (Try.prog.info? 3).map (fun i => (i.zero, i.size, i.bytes)) = some (some (.int .i64 0), 1, 8) from by kernel_rfl) rfl (by decide) (by omega) u3 ((s.loose.take k).map (·.1)) p.1 [.int .i64 p.1] (fun _ => True) (fun _ => False) rfl rfl ?aP (fun _ hk => hk.elim) ?aF ?aO ?aB ?aS ?aL ?_; (case aP => exact rfl); (case aB => exact below_weaken HB.out HB.out.size HB6.out); (case aF => exact fun _ _ => trivial); (case aO => exact Kd.R_below HR.out HB6.out); (case aS => exact Nat.le_trans HB.out.size HB6.out.size); (case aL => have := HL.out; have := HT.out; rw [List.length_map, List.length_take]; omega); intro v7 w7 ho hb hg hat; have HR7 := Aside0.mk ho; have HB7 := Aside0.mk hb; clear ho hb hg hat))
      go_roundg k1
      case measure => omega
      case rel => exact ⟨k + 1, (by first | rfl | go_num), ⟨by have := HQ.out; omega⟩, ⟨by rw [HW.out, List.map_append]; exact HR7.out⟩, HB7⟩
    · have d0 : decide (k < s.loose.length) = false := decide_eq_false hlt
      have HT := Aside0.mk (show s.loose.length ≤ k by omega)
      clear hlt
      go_wp2
      go_ret
      exact ⟨_, rfl, by have := HR.out; rw [List.take_of_length_le HT.out] at this; exact this, HB.out⟩


/-! ### sector_Disk_Loose: function 21 -/
-- FN rounds=0 making=1
def sector_Disk_Loose.f (s : Disk.DiskM)  : Option (Int × Disk.DiskM) := if s.loose.length < 1000000 then some ((s.loose.length : Int), s) else none
set_option maxHeartbeats 2000000 in
open Go.Proofs.Ytjaibpphlbddoaa.Opq in
theorem sector_Disk_Loose.calls (g : Nat) (s0_0 : Disk.DiskM)  (r1 : Int) (r2 : Disk.DiskM) (w0 w : World) (hI : IsS67 w0 w g s0_0) (hB : Below w0.heap.size w0 w) (h : sector_Disk_Loose.f s0_0  = some (r1, r2)) :
    Calls Try.prog 21 #[.pointer (some ⟨g, 0, none⟩)] w fun e w' => e = .returned (.int .i64 r1) ∧ IsS67 w0 w' g r2 ∧ Below w0.heap.size w0 w' ∧ KeepO ts67 w0.heap.size w w' := by
  unfold sector_Disk_Loose.f at h
  split at h
  case isFalse => cases h
  case isTrue hlen =>
  have h := Option.some.inj h
  injection h with h1 h2
  subst h1 h2
  have HI := Aside0.mk hI
  have HB := Aside0.mk hB
  have HL := Aside0.mk hlen
  clear hI hB hlen h
  go_enter Try.func21, Try.ntmps21
  go_wp2_with fail
  refine (sector_Disk_Pending.calls0 g s0_0 w0 w HI.out HL.out).mono ?_
  rintro e w1 ⟨v, rfl, ho, hb⟩
  obtain ⟨A, c, rfl, _⟩ := Kd.R_reads ho
  have HLen := Aside0.mk (show (s0_0.loose.map (·.1)).length = s0_0.loose.length from List.length_map _)
  have HB1 := Aside0.mk hb
  clear ho hb
  go_wp2
  go_ret
  exact ⟨by first | rfl | (rw [HLen.out]; rfl), HI.out.below HB1.out, below_weaken HB.out HB.out.size HB1.out, KeepO.of_below HB1.out⟩


/-! ### region_Size: function 38 -/
def region_Size.f (a0 : Int) : Option (Int) := some (wrap64 (1 + (wrap64 (Int.tdiv (wrap64 ((wrap64 ((mx a0 0) + 64)) - 1)) 64))))
set_option maxHeartbeats 8000000 in
set_option maxRecDepth 100000 in
theorem region_Size.calls (a0 : Int) (r : Int) (w : World) (h : region_Size.f a0 = some r) :
    Calls Try.prog 38 #[.int .i64 a0] w fun e w' => e = .returned (.int .i64 r) ∧ Below w.heap.size w w' := by
  have HB := Aside0.mk (Below.refl w.heap.size w)
  have H : (some (wrap64 (1 + (wrap64 (Int.tdiv (wrap64 ((wrap64 ((mx a0 0) + 64)) - 1)) 64))))) = some r := h
  clear h
  obtain ⟨ji2, hji2⟩ : ∃ j_ : Int, (mx a0 0) = j_ := ⟨_, rfl⟩
  replace H : (some (wrap64 (1 + (wrap64 (Int.tdiv (wrap64 ((wrap64 ((ji2) + 64)) - 1)) 64))))) = some r := by first | (rw [hji2] at H; exact H) | (simp only [hji2] at H ⊢; exact H)
  (try (have hji2l : 0 ≤ ji2 := by (rw [← hji2]; unfold mx; (repeat' split) <;> omega)))
  (try (have hji2m : 0 ≤ ji2 := by omega))
  have hji2_ : (if a0 < 0 then 0 else a0) = ji2 := hji2
  obtain rfl := Option.some.inj H
  go_enter Try.func38, Try.ntmps38
  go_wp2
  go_ret
  exact ⟨by first | rfl | (simp [errW_none, errW_some] <;> rfl) | (simp only [← hji2]; first | rfl | (simp [errW_none, errW_some] <;> rfl)) | (simp [*, errW_none, errW_some] <;> rfl), by repeat (first | (with_reducible first | exact HB.out | apply below_alloc | apply pw_below_drewN | apply below_drew1) | exact HB.out)⟩

/-! ### region_Put: function 50 -/
def region_Put.f (l0 : List Int) (a1 : Int) : Option (List Int) := (some (([(a1 / 16777216) % 256, (a1 / 65536) % 256, (a1 / 256) % 256, (a1) % 256] : List Int) : List Int)).bind fun y103 => (if l0.length + y103.length < 140737488355328 then (some (l0 ++ y103)) else (none))
set_option maxHeartbeats 8000000 in
set_option maxRecDepth 100000 in
theorem region_Put.calls (P0_ : Nat → Prop) (u9000_ : Value) (l0 : List Int) (a1 : Int) (r : List Int) (w0 w : World) (hB : Below w0.heap.size w0 w) (ho0 : Kd.R (Kd.int .u8) 5 w w0.heap.size P0_ u9000_ l0) (h : region_Put.f l0 a1 = some r) :
    Calls Try.prog 50 #[u9000_, .int .u32 a1] w fun e w' => ∃ v0_ : Value, e = .returned (v0_) ∧ Kd.R (Kd.int .u8) 5 w' w0.heap.size (fun k_ => (P0_ k_ ∨ w.heap.size ≤ k_)) v0_ r ∧ Below w0.heap.size w0 w' ∧ Kept w w' (fun k_ => P0_ k_) := by
  have HO0 := Aside0.mk (show Kd.R (Kd.int .u8) 5 w w0.heap.size (fun k_ => (P0_ k_ ∨ w.heap.size ≤ k_)) u9000_ l0 from Kd.R_mono ho0 (fun k_ hk => (.inl hk)))
  have HK := Aside0.mk (Kept.refl w (fun k_ => P0_ k_))
  have HW0 := Aside0.mk hB.size
  have HB := Aside0.mk hB
  clear hB
  have H : ((some (([(a1 / 16777216) % 256, (a1 / 65536) % 256, (a1 / 256) % 256, (a1) % 256] : List Int) : List Int)).bind fun y103 => (if l0.length + y103.length < 140737488355328 then (some (l0 ++ y103)) else (none))) = some r := h
  clear h
  obtain ⟨y103, hy103⟩ : ∃ y_ : List Int, y_ = (([(a1 / 16777216) % 256, (a1 / 65536) % 256, (a1 / 256) % 256, (a1) % 256] : List Int)) := ⟨_, rfl⟩
  replace H : (if l0.length + y103.length < 140737488355328 then (some (l0 ++ y103)) else (none)) = some r := by first | (rw [hy103]; with_reducible exact H) | (have H2_ := (Option.bind_some _ _).symm.trans H; rw [hy103]; with_reducible exact H2_) | (have H2_ := (Option.bind_some _ _).symm.trans H; with_reducible exact H2_) | with_reducible exact H | (rw [hy103]; exact H) | exact H
  have Ny103 := Aside0.mk hy103
  clear hy103
  by_cases c3 : l0.length + y103.length < 140737488355328
  · rw [if_pos c3] at H
    have LMc3 := Aside0.mk c3
    clear c3
    obtain ⟨y106, hy106⟩ : ∃ y_ : List Int, y_ = (l0 ++ y103) := ⟨_, rfl⟩
    replace H : (some y106) = some r := by first | (rw [hy106]; with_reducible exact H) | (have H2_ := (Option.bind_some _ _).symm.trans H; rw [hy106]; with_reducible exact H2_) | (have H2_ := (Option.bind_some _ _).symm.trans H; with_reducible exact H2_) | with_reducible exact H | (rw [hy106]; exact H) | exact H
    have Ny106 := Aside0.mk hy106
    clear hy106
    obtain rfl := Option.some.inj H
    go_enter Try.func50, Try.ntmps50
    go_wp2_with (first | ((with_reducible refine gate_dst (N := 17) rfl ?_); refine Kd.R_lit (Kd.int .u8) _ 5 ?hg (N := 17) ?hd (xs := ([(a1 / 16777216) % 256, (a1 / 65536) % 256, (a1 / 256) % 256, (a1) % 256] : List Int)) (inner := [.int .u8 ((a1 / 16777216) % 256), .int .u8 ((a1 / 65536) % 256), .int .u8 ((a1 / 256) % 256), .int .u8 ((a1) % 256)]) (ok := fun _ => True) (okp := fun _ => True) ?hr ?hp (fun _ hk => hk) trivial (Below.refl _ _) (Nat.le_refl _) (by simp) ?_; (case hd => rfl); (case hg => rfl); (case hr => first | (go_simp; done) | (go_simp; rfl) | (go_simp; simp [IntKind.wrap_u8, IntKind.wrap_u32]; done)); (case hp => exact (Reps.one (show Kd.M (Kd.int .u8) _ _ _ ((a1 / 16777216) % 256) [.int .u8 ((a1 / 16777216) % 256)] from rfl) (Reps.one (show Kd.M (Kd.int .u8) _ _ _ ((a1 / 65536) % 256) [.int .u8 ((a1 / 65536) % 256)] from rfl) (Reps.one (show Kd.M (Kd.int .u8) _ _ _ ((a1 / 256) % 256) [.int .u8 ((a1 / 256) % 256)] from rfl) (Reps.one (show Kd.M (Kd.int .u8) _ _ _ ((a1) % 256) [.int .u8 ((a1) % 256)] from rfl) (Reps.none _ _)))))); intro v104 w4 ho5 hb hg_ hnew_; clear hg_ hnew_; (first | rw [← Ny103.out] at ho5 | (simp only [Int.reduceToNat] at ho5; rw [← Ny103.out] at ho5)); have n0_ := Aside0.mk (Kd.R_elder' (by (with_reducible repeat (first | apply Kd.R_alloc | apply Kd.R_drewN | apply Kd.R_drew)); exact HO0.out) (Kd.R_base ho5) hb); have n1_ := Aside0.mk (Kd.R_lower (Kd.R_new' (Kd.R_newM (M := fun k_ => (P0_ k_ ∨ w.heap.size ≤ k_)) ho5 (by first | exact HK.out.1 | exact (show Kept w _ (fun k_ => P0_ k_) from by repeat (first | (with_reducible first | exact HK.out | apply Kept.alloc | apply Kept.drewN | apply Kept.drew) | exact HK.out)).1) (fun k_ h_ => .inr h_)) (Kd.R_lt (by (with_reducible repeat (first | apply Kd.R_alloc | apply Kd.R_drewN | apply Kd.R_drew)); exact HO0.out))) (below_size (by repeat (first | (with_reducible first | exact HB.out | apply below_alloc | apply pw_below_drewN | apply below_drew1) | exact HB.out)))); have n2_ := Aside0.mk (Kept.below (S := (fun k_ => P0_ k_)) (by repeat (first | (with_reducible first | exact HK.out | apply Kept.alloc | apply Kept.drewN | apply Kept.drew) | exact HK.out)) hb); have n3_ := Aside0.mk (below_step (by repeat (first | (with_reducible first | exact HB.out | apply below_alloc | apply pw_below_drewN | apply below_drew1) | exact HB.out)) hb); clear HO0; clear HK; clear HB; have HO0 := n0_; have HO105 := n1_; have HK := n2_; have HB := n3_; clear n0_ n1_ n2_ n3_; clear hb ho5; obtain ⟨Ao7, co7, eo7⟩ := Kd.R_slice HO105.out; subst eo7) | ((with_reducible refine gate_builtin (b := .append) (xs := #[.tmp 5, .tmp 17]) rfl ?_); at_builtin; refine Kd.R_append_rows (Kd.int .u8) (w0 := w0) w0.heap.size rfl (.tmp 5) (.tmp 17) 22 5 (.int .u8 0) 1 rfl Try.underlying22 info5 rfl (by decide) (by omega) u9000_ l0 y103 _ _ _ (fun k_ => (P0_ k_ ∨ w.heap.size ≤ k_) ∧ some k_ ≠ (.slice Ao7 y103.length co7 : Value).ownBlock) (fun _ => False) rfl rfl ?aO ?aR (fun _ _ h => h) (fun _ h => h.elim) ?aF ?aB ?aS ?aL ?_; (case aR => repeat (first | exact (Kd.R_reads' HO105.out).2.2 | (with_reducible refine Kd.C_alloc ?_ _) | (with_reducible refine Kd.C_drewN ?_ _) | (with_reducible refine Kd.C_drew ?_))); (case aB => exact (by repeat (first | (with_reducible first | exact HB.out | apply below_alloc | apply pw_below_drewN | apply below_drew1) | exact HB.out))); (case aF => exact (fun k_ hk => ⟨(.inr (Nat.le_trans (by first | exact HK.out.1 | exact (show Kept w _ (fun k_ => P0_ k_) from by repeat (first | (with_reducible first | exact HK.out | apply Kept.alloc | apply Kept.drewN | apply Kept.drew) | exact HK.out)).1) hk)), Kd.fresh' (Kd.R_lt (by (with_reducible repeat (first | apply Kd.R_alloc | apply Kd.R_drewN | apply Kd.R_drew)); exact HO105.out)) k_ hk⟩)); (case aO => exact (by (with_reducible repeat (first | apply Kd.R_alloc | apply Kd.R_drewN | apply Kd.R_drew)); exact HO0.out)); (case aS => exact (below_size (by repeat (first | (with_reducible first | exact HB.out | apply below_alloc | apply pw_below_drewN | apply below_drew1) | exact HB.out)))); (case aL => have := LMc3.out; omega); intro v107 w6 ho hb hg hat; rw [← Ny106.out] at ho; have n0_ := Aside0.mk (Kd.R_after (ok := (fun k_ => (P0_ k_ ∨ w.heap.size ≤ k_))) (by (with_reducible repeat (first | apply Kd.R_alloc | apply Kd.R_drewN | apply Kd.R_drew)); exact Kd.R_mono HO105.out (fun _ hk => ⟨hk.1.1, hk.2⟩)) hg hat); have n1_ := Aside0.mk (hb); have n2_ := Aside0.mk (Kept.of_grown (S := (fun k_ => P0_ k_)) hg (by repeat (first | (with_reducible first | exact HK.out | apply Kept.alloc | apply Kept.drewN | apply Kept.drew) | exact HK.out)) (fun k_ e_ => (HO0.out.1 k_ e_).1)); have n3_ := Aside0.mk (ho); clear HO105; clear HB; clear HK; clear HO0; have HO105 := n0_; have HB := n1_; have HK := n2_; have HO108 := n3_; clear n0_ n1_ n2_ n3_; clear ho hb hg hat))
    go_ret
    exact ⟨_, by first | rfl | (simp [errW_none, errW_some] <;> rfl) | (simp [*, errW_none, errW_some] <;> rfl), by (with_reducible repeat (first | apply Kd.R_alloc | apply Kd.R_drewN | apply Kd.R_drew)); exact Kd.R_mono HO108.out (fun _ hk => hk.1), by repeat (first | (with_reducible first | exact HB.out | apply below_alloc | apply pw_below_drewN | apply below_drew1) | exact HB.out), by repeat (first | (with_reducible first | exact HK.out | apply Kept.alloc | apply Kept.drewN | apply Kept.drew) | exact HK.out)⟩
  · rw [if_neg c3] at H
    exact absurd H (by simp)

/-! ### sum_Of: function 51 -/
mutual
def sum_Of.l0 : Nat → Int → List Int → Int → Int → Option (Int)
  | 0, _, _, _, _ => none
  | k + 1, x3, x7, x8, x9 => if x9 < x8 then (if 0 ≤ x9 then (if x9 < (x7.length : Int) then (sum_Of.l1 k (Go.bits .xor .u32 x3 ((rd x7 x9) % 4294967296)) x7 x8 x9 0) else (none)) else (none)) else (some (Go.bits .xor .u32 4294967295 x3))
def sum_Of.l1 : Nat → Int → List Int → Int → Int → Int → Option (Int)
  | 0, _, _, _, _, _ => none
  | k + 1, x3, x7, x8, x9, x17 => if x17 < 8 then (sum_Of.l1 k (Go.bits .xor .u32 (x3 / 2) ((2197175160 * (Go.bits .and .u32 x3 1)) % 4294967296)) x7 x8 x9 (wrap64 (x17 + 1))) else (sum_Of.l0 k x3 x7 x8 (wrap64 (x9 + 1)))
end
def sum_Of.f (k : Nat) (l0 : List Int) : Option (Int) := sum_Of.l0 k 4294967295 l0 (l0.length : Int) 0
theorem sum_Of.mono_l : ∀ k, (∀ y0 y1 y2 y3, LeO (sum_Of.l0 k y0 y1 y2 y3) (sum_Of.l0 (k + 1) y0 y1 y2 y3)) ∧ (∀ y0 y1 y2 y3 y4, LeO (sum_Of.l1 k y0 y1 y2 y3 y4) (sum_Of.l1 (k + 1) y0 y1 y2 y3 y4))
  | 0 => ⟨fun _ _ _ _ r h => by simp [sum_Of.l0] at h, fun _ _ _ _ _ r h => by simp [sum_Of.l1] at h⟩
  | k + 1 => by
    obtain ⟨ih0, ih1⟩ := sum_Of.mono_l k
    refine ⟨?_, ?_⟩
    · intro y0 y1 y2 y3
      unfold sum_Of.l0
      repeat' first
      | (with_reducible exact ih0 _ _ _ _)
      | (with_reducible exact ih1 _ _ _ _ _)
      | (with_reducible exact LeO.refl _)
      | (with_reducible exact LeO.none _)
      | (with_reducible refine LeO.ite ?_ ?_)
      | (with_reducible refine LeO.bind ?_ (fun _ => ?_))
      | exact ih0 _ _ _ _
      | exact ih1 _ _ _ _ _
      | exact LeO.none _
      | refine LeO.ite ?_ ?_
      | refine LeO.bind ?_ (fun _ => ?_)
    · intro y0 y1 y2 y3 y4
      unfold sum_Of.l1
      repeat' first
      | (with_reducible exact ih0 _ _ _ _)
      | (with_reducible exact ih1 _ _ _ _ _)
      | (with_reducible exact LeO.refl _)
      | (with_reducible exact LeO.none _)
      | (with_reducible refine LeO.ite ?_ ?_)
      | (with_reducible refine LeO.bind ?_ (fun _ => ?_))
      | exact ih0 _ _ _ _
      | exact ih1 _ _ _ _ _
      | exact LeO.none _
      | refine LeO.ite ?_ ?_
      | refine LeO.bind ?_ (fun _ => ?_)
theorem sum_Of.mono : ∀ a0 k, LeO (sum_Of.f k a0) (sum_Of.f (k + 1) a0) := by
  intro a0 k
  obtain ⟨ih0, ih1⟩ := sum_Of.mono_l k
  unfold sum_Of.f
  repeat' first
      | (with_reducible exact ih0 _ _ _ _)
      | (with_reducible exact ih1 _ _ _ _ _)
      | (with_reducible exact LeO.refl _)
      | (with_reducible exact LeO.none _)
      | (with_reducible refine LeO.ite ?_ ?_)
      | (with_reducible refine LeO.bind ?_ (fun _ => ?_))
      | exact ih0 _ _ _ _
      | exact ih1 _ _ _ _ _
      | exact LeO.none _
      | refine LeO.ite ?_ ?_
      | refine LeO.bind ?_ (fun _ => ?_)
set_option maxHeartbeats 8000000 in
set_option maxRecDepth 100000 in
theorem sum_Of.calls (k : Nat) (A0 : Option Addr) (c0 : Nat) (l0 : List Int) (r : Int) (w : World) (hr0 : Kd.C (Kd.int .u8) w A0 l0.length l0) (hc0 : l0.length ≤ c0) (h : sum_Of.f k l0 = some r) :
    Calls Try.prog 51 #[.slice A0 l0.length c0] w fun e w' => e = .returned (.int .u32 r) ∧ Drawn0 w w' := by
  have HR0 := Aside0.mk hr0
  have HC0 := Aside0.mk hc0
  clear hr0 hc0
  have H : (sum_Of.l0 k 4294967295 l0 (l0.length : Int) 0) = some r := h
  clear h
  have H' := Aside0.mk H
  clear H
  go_enter Try.func51, Try.ntmps51
  go_wp2
  go_loopg [3, 9] k (fun kq v3 v9 w' => ∃ (x3_1 : Int) (x9_1 : Int), v3 = .int .u32 x3_1 ∧ v9 = .int .i64 x9_1 ∧ Aside0 (sum_Of.l0 kq x3_1 l0 (l0.length : Int) x9_1 = some r) ∧ Aside0 (kq ≤ k) ∧ Drawn0 w w')
  case atStart => exact ⟨(4294967295), (0), (by first | rfl | (simp; done) | (simp [*]; done)), (by first | rfl | (simp; done) | (simp [*]; done)), H', ⟨Nat.le_refl _⟩, by repeat (first | exact Drawn0.refl _ | apply Drawn0.step)⟩
  case round =>
    clear H'
    obtain ⟨x3_1, x9_1, rfl, rfl, HA, HK1, ⟨m1, rfl⟩⟩ := hrel
    cases gk with
    | zero => exact absurd HA.out (by simp [sum_Of.l0])
    | succ k1 =>
      have H := HA.out
      clear HA
      simp only [sum_Of.l0] at H
      by_cases c2 : x9_1 < (l0.length : Int)
      · rw [if_pos c2] at H
        have c2b0 : decide (x9_1 < (l0.length : Int)) = true := decide_eq_true c2
        clear c2
        by_cases c3 : 0 ≤ x9_1
        · rw [if_pos c3] at H
          have c3b0 : decide (0 ≤ x9_1) = true := decide_eq_true c3
          clear c3
          by_cases c4 : x9_1 < (l0.length : Int)
          · rw [if_pos c4] at H
            have c4b0 : decide (x9_1 < (l0.length : Int)) = true := decide_eq_true c4
            clear c4
            have H' := Aside0.mk H
            clear H
            have p109 : 0 ≤ (x9_1 : Int) := of_decide_eq_true (by first | (with_reducible assumption) | assumption)
            have q109 : x9_1 < (l0.length : Int) := of_decide_eq_true (by first | (with_reducible assumption) | assumption)
            obtain ⟨ad109, e109, hx109_0⟩ := Kd.at_int HR0.out x9_1 p109 q109
            cases e109
            replace p109 := eq_true p109
            replace q109 := eq_true q109
            go_wp2
            go_loopg [3, 17] k1 (fun kq v3 v17 w' => ∃ (x3_2 : Int) (x17_2 : Int), v3 = .int .u32 x3_2 ∧ v17 = .int .i64 x17_2 ∧ Aside0 (sum_Of.l1 kq x3_2 l0 (l0.length : Int) x9_1 x17_2 = some r) ∧ Aside0 (kq ≤ k1) ∧ Drawn0 w w')
            case atStart => exact ⟨(Go.bits .xor .u32 x3_1 ((rd l0 x9_1) % 4294967296)), (0), (by first | rfl | (simp; done) | (simp [*]; done)), (by first | rfl | (simp; done) | (simp [*]; done)), H', ⟨Nat.le_refl _⟩, by repeat (first | exact Drawn0.refl _ | apply Drawn0.step)⟩
            case round =>
              clear H'
              try clear p1
              try clear q1
              try clear hx1
              try clear c2
              try clear c2b0
              try clear p2
              try clear c3
              try clear c3b0
              try clear c4
              try clear c4b0
              try clear hx109_0
              try clear p109
              try clear q109
              obtain ⟨x3_2, x17_2, rfl, rfl, HA, HK2, ⟨m2, rfl⟩⟩ := hrel
              cases gk with
              | zero => exact absurd HA.out (by simp [sum_Of.l1])
              | succ k2 =>
                have H := HA.out
                clear HA
                simp only [sum_Of.l1] at H
                by_cases c5 : x17_2 < 8
                · rw [if_pos c5] at H
                  have c5b0 : decide (x17_2 < 8) = true := decide_eq_true c5
                  clear c5
                  have H' := Aside0.mk H
                  clear H
                  go_wp2
                  go_roundg k2
                  case measure => have := HK1.out; have := HK2.out; omega
                  case rel => exact ⟨(Go.bits .xor .u32 (x3_2 / 2) ((2197175160 * (Go.bits .and .u32 x3_2 1)) % 4294967296)), (wrap64 (x17_2 + 1)), (by first | rfl | (simp; done) | (simp [*]; done)), (by first | rfl | (simp; done) | (simp [*]; done)), H', ⟨by have := HK1.out; have := HK2.out; omega⟩, by repeat (first | exact Drawn0.refl _ | apply Drawn0.step)⟩
                · rw [if_neg c5] at H
                  have c5b0 : decide (x17_2 < 8) = false := decide_eq_false c5
                  clear c5
                  have H' := Aside0.mk H
                  clear H
                  go_wp2
                  go_roundg k2
                  case measure => have := HK1.out; have := HK2.out; omega
                  case rel => exact ⟨(x3_2), (wrap64 (x9_1 + 1)), (by first | rfl | (simp; done) | (simp [*]; done)), (by first | rfl | (simp; done) | (simp [*]; done)), H', ⟨by have := HK1.out; have := HK2.out; omega⟩, by repeat (first | exact Drawn0.refl _ | apply Drawn0.step)⟩
          · rw [if_neg c4] at H
            exact absurd H (by simp)
        · rw [if_neg c3] at H
          exact absurd H (by simp)
      · rw [if_neg c2] at H
        have c2b0 : decide (x9_1 < (l0.length : Int)) = false := decide_eq_false c2
        clear c2
        obtain rfl := Option.some.inj H
        go_wp2
        go_ret
        exact ⟨by first | rfl | (simp; done) | (simp [*]; done), by repeat (first | exact Drawn0.refl _ | apply Drawn0.step)⟩

/-! ### region_first: function 39 -/
def region_first.f (k : Nat) (a0 : Int) (l1 : List Int) : Option (List Int) := (region_Put.f ([] : List Int) ((a0) % 4294967296)).bind fun t110 => ((region_Put.f t110 (((l1.length : Int)) % 4294967296)).bind fun t113 => ((sum_Of.f k l1).bind fun t116 => ((region_Put.f t113 t116).bind fun t117 => ((sum_Of.f k t117).bind fun t120 => ((region_Put.f t117 t120).bind fun t121 => (some t121))))))
theorem region_first.mono : ∀ a0 a1 k, LeO (region_first.f k a0 a1) (region_first.f (k + 1) a0 a1) := by
  intro a0 a1 k
  unfold region_first.f
  repeat' first
      | (with_reducible exact sum_Of.mono _ _)
      | (with_reducible exact LeO.refl _)
      | (with_reducible exact LeO.none _)
      | (with_reducible refine LeO.ite ?_ ?_)
      | (with_reducible refine LeO.bind ?_ (fun _ => ?_))
      | exact sum_Of.mono _ _
      | exact LeO.none _
      | refine LeO.ite ?_ ?_
      | refine LeO.bind ?_ (fun _ => ?_)
set_option maxHeartbeats 8000000 in
set_option maxRecDepth 100000 in
theorem region_first.calls (k : Nat) (a0 : Int) (A1 : Option Addr) (c1 : Nat) (l1 : List Int) (r : List Int) (w : World) (hr1 : Kd.C (Kd.int .u8) w A1 l1.length l1) (hc1 : l1.length ≤ c1) (h : region_first.f k a0 l1 = some r) :
    Calls Try.prog 39 #[.int .i64 a0, .slice A1 l1.length c1] w fun e w' => ∃ v0_ : Value, e = .returned (v0_) ∧ Kd.R (Kd.int .u8) 5 w' w.heap.size (fun _ => True) v0_ r ∧ Below w.heap.size w w' := by
  have HR1 := Aside0.mk hr1
  have HC1 := Aside0.mk hc1
  clear hr1 hc1
  have HB := Aside0.mk (Below.refl w.heap.size w)
  have H : ((region_Put.f ([] : List Int) ((a0) % 4294967296)).bind fun t110 => ((region_Put.f t110 (((l1.length : Int)) % 4294967296)).bind fun t113 => ((sum_Of.f k l1).bind fun t116 => ((region_Put.f t113 t116).bind fun t117 => ((sum_Of.f k t117).bind fun t120 => ((region_Put.f t117 t120).bind fun t121 => (some t121))))))) = some r := h
  clear h
  replace H := Option.bind_eq_some_iff.mp H
  obtain ⟨t110, A30, H⟩ := H
  replace H : ((region_Put.f t110 (((l1.length : Int)) % 4294967296)).bind fun t113 => ((sum_Of.f k l1).bind fun t116 => ((region_Put.f t113 t116).bind fun t117 => ((sum_Of.f k t117).bind fun t120 => ((region_Put.f t117 t120).bind fun t121 => (some t121)))))) = some r := H
  have A3 := Aside0.mk A30
  clear A30
  replace H := Option.bind_eq_some_iff.mp H
  obtain ⟨t113, A40, H⟩ := H
  replace H : ((sum_Of.f k l1).bind fun t116 => ((region_Put.f t113 t116).bind fun t117 => ((sum_Of.f k t117).bind fun t120 => ((region_Put.f t117 t120).bind fun t121 => (some t121))))) = some r := H
  have A4 := Aside0.mk A40
  clear A40
  replace H := Option.bind_eq_some_iff.mp H
  obtain ⟨t116, A50, H⟩ := H
  replace H : ((region_Put.f t113 t116).bind fun t117 => ((sum_Of.f k t117).bind fun t120 => ((region_Put.f t117 t120).bind fun t121 => (some t121)))) = some r := H
  have A5 := Aside0.mk A50
  clear A50
  replace H := Option.bind_eq_some_iff.mp H
  obtain ⟨t117, A60, H⟩ := H
  replace H : ((sum_Of.f k t117).bind fun t120 => ((region_Put.f t117 t120).bind fun t121 => (some t121))) = some r := H
  have A6 := Aside0.mk A60
  clear A60
  replace H := Option.bind_eq_some_iff.mp H
  obtain ⟨t120, A70, H⟩ := H
  replace H : ((region_Put.f t117 t120).bind fun t121 => (some t121)) = some r := H
  have A7 := Aside0.mk A70
  clear A70
  replace H := Option.bind_eq_some_iff.mp H
  obtain ⟨t121, A80, H⟩ := H
  replace H : (some t121) = some r := H
  have A8 := Aside0.mk A80
  clear A80
  obtain rfl := Option.some.inj H
  go_enter Try.func39, Try.ntmps39
  go_wp2_with (first | ((with_reducible refine gate_callee (f := 50) rfl ?_); refine goesL_ (some 8) rfl rfl Try.func50 (by kernel_rfl) rfl #[.slice none 0 0, .int .u32 ((a0) % 4294967296)] rfl (by (try simp only [List.map_toArray, List.map_cons, List.map_nil]); first | done | rfl | (simp only [List.length_drop, List.length_take]; rfl)) ?_; (refine (region_Put.calls (fun k_ => some k_ = (.slice none 0 0 : Value).ownBlock) (.slice none 0 0) ([] : List Int) ((a0) % 4294967296) t110 w _ ?side1 ?side2 A3.out).mono ?_); (case side1 => repeat (first | (with_reducible first | exact HB.out | apply below_alloc | apply pw_below_drewN | apply below_drew1) | exact HB.out)); (case side2 => exact Kd.R_nil _ _ _ _ _); rintro e w9 ⟨v111, rfl, ho0, hb, hkp⟩; refine ⟨_, rfl, ?_⟩; have n0_ := Aside0.mk (Kd.R_mono (ok' := fun k_ => True) ho0 (fun k_ hk_ => trivial)); have n1_ := Aside0.mk (hb); clear HB; have HO112 := n0_; have HB := n1_; clear n0_ n1_; (try clear hb); (try clear hkp); (try clear ho0); obtain ⟨Ao10, co10, eo10⟩ := Kd.R_slice HO112.out; subst eo10) | ((with_reducible refine gate_callee (f := 50) rfl ?_); refine goesL_ (some 12) rfl rfl Try.func50 (by kernel_rfl) rfl #[.slice Ao10 t110.length co10, .int .u32 (((l1.length : Int)) % 4294967296)] rfl (by (try simp only [List.map_toArray, List.map_cons, List.map_nil]); first | done | rfl | (simp only [List.length_drop, List.length_take]; rfl)) ?_; (with_reducible refine (region_Put.calls (fun k_ => some k_ = (.slice Ao10 t110.length co10 : Value).ownBlock) (.slice Ao10 t110.length co10) t110 (((l1.length : Int)) % 4294967296) t113 w _ ?side1 ?side2 A4.out).mono ?_); (case side1 => repeat (first | (with_reducible first | exact HB.out | apply below_alloc | apply pw_below_drewN | apply below_drew1) | exact HB.out)); (case side2 => exact Kd.R_tight rfl HO112.out); rintro e w11 ⟨v114, rfl, ho0, hb, hkp⟩; refine ⟨_, rfl, ?_⟩; have n0_ := Aside0.mk (Kd.R_mono (ok' := fun k_ => True) ho0 (fun k_ hk_ => trivial)); have n1_ := Aside0.mk (hb); clear HB; clear HO112; have HO115 := n0_; have HB := n1_; clear n0_ n1_; (try clear hb); (try clear hkp); (try clear ho0)) | ((with_reducible refine gate_callee (f := 51) rfl ?_); refine goesL_ (some 14) rfl rfl Try.func51 (by kernel_rfl) rfl #[.slice A1 l1.length c1] rfl (by (try simp only [List.map_toArray, List.map_cons, List.map_nil]); first | done | rfl | (simp only [List.length_drop, List.length_take]; rfl)) ?_; (with_reducible refine (sum_Of.calls k _ _ l1 t116 _ ?side1 ?side2 A5.out).mono ?_); (case side1 => repeat (first | exact (Kd.C_below HR1.out HB.out) | (with_reducible refine Kd.C_alloc ?_ _) | (with_reducible refine Kd.C_drewN ?_ _) | (with_reducible refine Kd.C_drew ?_))); (case side2 => exact HC1.out); rintro e w' ⟨rfl, ⟨nd, rfl⟩⟩; refine ⟨_, rfl, ?_⟩; obtain ⟨Ao12, co12, eo12⟩ := Kd.R_slice HO115.out; subst eo12) | ((with_reducible refine gate_callee (f := 50) rfl ?_); refine goesL_ (some 15) rfl rfl Try.func50 (by kernel_rfl) rfl #[.slice Ao12 t113.length co12, .int .u32 t116] rfl (by (try simp only [List.map_toArray, List.map_cons, List.map_nil]); first | done | rfl | (simp only [List.length_drop, List.length_take]; rfl)) ?_; (with_reducible refine (region_Put.calls (fun k_ => some k_ = (.slice Ao12 t113.length co12 : Value).ownBlock) (.slice Ao12 t113.length co12) t113 t116 t117 w _ ?side1 ?side2 A6.out).mono ?_); (case side1 => repeat (first | (with_reducible first | exact HB.out | apply below_alloc | apply pw_below_drewN | apply below_drew1) | exact HB.out)); (case side2 => exact Kd.R_tight rfl HO115.out); rintro e w13 ⟨v118, rfl, ho0, hb, hkp⟩; refine ⟨_, rfl, ?_⟩; have n0_ := Aside0.mk (Kd.R_mono (ok' := fun k_ => True) ho0 (fun k_ hk_ => trivial)); have n1_ := Aside0.mk (hb); clear HB; clear HO115; have HO119 := n0_; have HB := n1_; clear n0_ n1_; (try clear hb); (try clear hkp); (try clear ho0); obtain ⟨Ao14, co14, eo14⟩ := Kd.R_slice HO119.out; subst eo14) | ((with_reducible refine gate_callee (f := 51) rfl ?_); refine goesL_ (some 18) rfl rfl Try.func51 (by kernel_rfl) rfl #[.slice Ao14 t117.length co14] rfl (by (try simp only [List.map_toArray, List.map_cons, List.map_nil]); first | done | rfl | (simp only [List.length_drop, List.length_take]; rfl)) ?_; (with_reducible refine (sum_Of.calls k _ _ t117 t120 _ ?side1 ?side2 A7.out).mono ?_); (case side1 => repeat (first | exact (Kd.R_reads' HO119.out).2.2 | (with_reducible refine Kd.C_alloc ?_ _) | (with_reducible refine Kd.C_drewN ?_ _) | (with_reducible refine Kd.C_drew ?_))); (case side2 => exact (Kd.R_reads' HO119.out).2.1); rintro e w' ⟨rfl, ⟨nd, rfl⟩⟩; refine ⟨_, rfl, ?_⟩) | ((with_reducible refine gate_callee (f := 50) rfl ?_); refine goesL_ (some 19) rfl rfl Try.func50 (by kernel_rfl) rfl #[.slice Ao14 t117.length co14, .int .u32 t120] rfl (by (try simp only [List.map_toArray, List.map_cons, List.map_nil]); first | done | rfl | (simp only [List.length_drop, List.length_take]; rfl)) ?_; (with_reducible refine (region_Put.calls (fun k_ => some k_ = (.slice Ao14 t117.length co14 : Value).ownBlock) (.slice Ao14 t117.length co14) t117 t120 t121 w _ ?side1 ?side2 A8.out).mono ?_); (case side1 => repeat (first | (with_reducible first | exact HB.out | apply below_alloc | apply pw_below_drewN | apply below_drew1) | exact HB.out)); (case side2 => exact Kd.R_tight rfl HO119.out); rintro e w15 ⟨v122, rfl, ho0, hb, hkp⟩; refine ⟨_, rfl, ?_⟩; have n0_ := Aside0.mk (Kd.R_mono (ok' := fun k_ => True) ho0 (fun k_ hk_ => trivial)); have n1_ := Aside0.mk (hb); clear HB; clear HO119; have HO123 := n0_; have HB := n1_; clear n0_ n1_; (try clear hb); (try clear hkp); (try clear ho0)))
  go_ret
  exact ⟨_, by first | rfl | (simp [errW_none, errW_some] <;> rfl) | (simp [*, errW_none, errW_some] <;> rfl), by (with_reducible repeat (first | apply Kd.R_alloc | apply Kd.R_drewN | apply Kd.R_drew)); exact HO123.out, by repeat (first | (with_reducible first | exact HB.out | apply below_alloc | apply pw_below_drewN | apply below_drew1) | exact HB.out)⟩

end Go.Proofs.Ytjaibpphlbddoaa.PRegionClean
