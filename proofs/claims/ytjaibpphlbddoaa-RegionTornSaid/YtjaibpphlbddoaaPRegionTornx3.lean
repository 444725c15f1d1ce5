-- Lean text by a program of this repo (wip/tools/printx.py), out of Lean's own print of the translation
import Derived.Laws.Externs
import Derived.Lib.BytesEntry
import Derived.Lib.Bytealg
import Derived.Test.YtjaibpphlbddoaaHelp
import Derived.Test.YtjaibpphlbddoaaMid
import Derived.Test.YtjaibpphlbddoaaPRegionTornx0
import Derived.Test.YtjaibpphlbddoaaPRegionTornx1
import Derived.Test.YtjaibpphlbddoaaPRegionTornx2
namespace Go.Proofs.Ytjaibpphlbddoaa.PRegionTorn
open Go.RowKit Go.Proofs.YtjaibpphlbddoaaW.PrintWords Go.Proofs.YtjaibpphlbddoaaW.PrintLast Go.Proofs.YtjaibpphlbddoaaW.PrintMore
attribute [local go_sem] max2_int min2_int max_two min_two max_three min_three max_four min_four   -- for this text's walks alone
set_option linter.unusedVariables false
set_option linter.unusedSimpArgs false

/-! ### sector_Disk_Lasts: function 20 -/
-- FN rounds=0 making=1
def sector_Disk_Lasts.f (s : Disk.DiskM) (a1 : Int) : Option (List Int × Int × Disk.DiskM) := if Disk.there s a1 = true then some (Disk.sector s.lasts a1, 0, s) else some ([], 1, s)
theorem clone_64 {w : World} {A : Option Addr} {l : List Int} (hl : l.length = 64) (hC : Kd.C (Kd.int .u8) w A 64 l) :
    Calls Try.prog 37 #[.slice A 64 64] w fun e w' => ∃ v0_ : Value, e = .returned (v0_) ∧ Kd.R (Kd.int .u8) 5 w' w.heap.size (fun _ => True) v0_ l ∧ Below w.heap.size w w' := by
  have h := bytes_Clone.calls A 64 l l w (by rw [hl]; exact hC) (by rw [hl]; exact Nat.le_refl _) (by unfold bytes_Clone.f; rw [if_pos (by rw [hl]; decide)])
  rw [hl] at h
  exact h
theorem disk_row {w : World} {g off n : Nat} {l : List Int} {t : TypeId} {fr : Nat × Nat} (hb : w.heap[g]? = some (.cells (Disk.bytes l).toArray t fr)) (h : off + n ≤ l.length) (hn : n ≤ 9223372036854775807) : Kd.C (Kd.int .u8) w (some ⟨g, off, none⟩) n ((l.drop off).take n) := by
  refine Kd.C_of_reads (d := 0) ⟨by rw [List.length_take, List.length_drop]; omega, hn, fun _ => ⟨_, rfl, fun j hj => ?_⟩⟩
  have hj2 : (Disk.bytes l)[off + j]? = some (.int .u8 (l.getD (off + j) 0)) := Disk.bytes_get (by omega)
  have hc : w.cell? ⟨g, off + j, none⟩ = some (.int .u8 (l.getD (off + j) 0)) := by
    simp only [World.cell?, hb]
    simpa using hj2
  have he : (⟨g, off, none⟩ : Addr).add j = ⟨g, off + j, none⟩ := by unfold Addr.add; split <;> simp_all
  rw [he, hc, List.getD_eq_getElem?_getD (l := (l.drop off).take n), List.getElem?_take, if_pos (by omega), List.getElem?_drop, ← List.getD_eq_getElem?_getD]
set_option maxHeartbeats 2000000 in
open Go.Proofs.Ytjaibpphlbddoaa.Opq in
theorem sector_Disk_Lasts.calls (g : Nat) (s0_0 : Disk.DiskM) (a1 : Int) (r1 : List Int) (r2 : Int) (r3 : Disk.DiskM) (w0 w : World) (hI : IsS67 w0 w g s0_0) (hB : Below w0.heap.size w0 w) (h : sector_Disk_Lasts.f s0_0 a1 = some (r1, r2, r3)) :
    Calls Try.prog 20 #[.pointer (some ⟨g, 0, none⟩), .int .i64 a1] w fun e w' => ∃ v0_ : Value, e = .returned (.tuple #[v0_, .int .i64 r2]) ∧ Kd.R (Kd.int .u8) 5 w' w.heap.size (fun _ => True) v0_ r1 ∧ IsS67 w0 w' g r3 ∧ Below w0.heap.size w0 w' ∧ Go.Proofs.Ytjaibpphlbddoaa.Opq.KeepO ts67 w0.heap.size w w' := by
  unfold sector_Disk_Lasts.f at h
  have HI := Aside0.mk hI
  obtain ⟨gl, vo, hg, hge, hgb, hgl, hown, hok⟩ := hI
  have hcell : w.cell? ⟨g, 0, none⟩ = some (.slice (some ⟨gl, 0, none⟩) (s0_0.lasts.length / 64) (s0_0.lasts.length / 64)) := (blk_cell hg 0).trans rfl
  have HB := Aside0.mk hB
  cases ht : Disk.there s0_0 a1 with
  | false =>
    rw [ht, if_neg (by simp)] at h
    have h := Option.some.inj h
    injection h with h1 h
    injection h with h2 h3
    subst h1 h2 h3
    have HT := Aside0.mk ht
    clear hg hge hgb hgl hown hok hB ht h
    go_enter Try.func20, Try.ntmps20
    go_wp2_with (go_at_call 34; refine (sector_Disk_there.calls0 g s0_0 a1 w0 _ HI.out).mono ?_; rw [HT.out]; rintro e w' ⟨rfl, rfl⟩)
    go_ret2
    exact ⟨_, rfl, Kd.R_nil _ _ _ _ _, HI.out, HB.out, KeepO.refl _ _ _⟩
  | true =>
    rw [ht, if_pos rfl] at h
    have h := Option.some.inj h
    injection h with h1 h
    injection h with h2 h3
    subst h1 h2 h3
    obtain ⟨p0, p1, p2⟩ := Disk.there_in hok ht
    have HT := Aside0.mk ht
    have HC := Aside0.mk (disk_row hgl (off := a1.toNat * 64) (n := 64) p2 (by omega))
    have HS := Aside0.mk (Disk.sector_length p2)
    have HX := Aside0.mk (clone_64 HS.out HC.out)
    clear hg hge hgb hgl hown hok hB ht h p2
    go_enter Try.func20, Try.ntmps20
    go_wp2_with (first | (go_at_call 34; refine (sector_Disk_there.calls0 g s0_0 a1 w0 _ HI.out).mono ?_; rw [HT.out]; rintro e w' ⟨rfl, rfl⟩) | (go_at_call 37; refine HX.out.mono ?_; rintro e w1 ⟨v0, rfl, ho0, hb⟩; have HO := Aside0.mk ho0; have HB1 := Aside0.mk hb; clear ho0 hb))
    go_ret2
    exact ⟨_, rfl, HO.out, HI.out.below HB1.out, below_weaken HB.out HB.out.size HB1.out, KeepO.of_below HB1.out⟩


/-! ### sector_Disk_Pending: function 36 -/
-- FN rounds=0 making=1
-- IMPORT Derived.Test.YtjaibpphlbddoaaMid
-- IMPORT Derived.Test.YtjaibpphlbddoaaHelp
def sector_Disk_Pending.f (s : Disk.DiskM) : Option (List Int × Disk.DiskM) := if s.loose.length < 1000000 then some (s.loose.map (·.1), s) else none
set_option maxHeartbeats 2000000 in
set_option maxRecDepth 100000 in
open Go.Proofs.Ytjaibpphlbddoaa.Opq Go.Proofs.Ytjaibpphlbddoaa.Mid in
theorem sector_Disk_Pending.calls0 (g : Nat) (s : Disk.DiskM) (w0 w : World) (hI : IsS67 w0 w g s) (hlen : s.loose.length < 1000000) :
    Calls Try.prog 36 #[.pointer (some ⟨g, 0, none⟩)] w fun e w' => ∃ v0_ : Value, e = .returned v0_ ∧ Kd.R (Kd.int .i64) 3 w' w.heap.size (fun _ => True) v0_ (s.loose.map (·.1)) ∧ Below w.heap.size w w' := by
  obtain ⟨gl, vo, hg, hge, hgb, hgl, hown, hok⟩ := hI
  obtain ⟨Av, cv, rfl, _⟩ := disk_loose_nil hown
  have hcell : w.cell? ⟨g, 1, none⟩ = some (.slice Av s.loose.length cv) := (blk_cell hg 1).trans rfl
  have HO := Aside0.mk hown
  have HK := Aside0.mk hok
  have HL := Aside0.mk hlen
  have hu := Try.underlying71
  have HSZ := Aside0.mk (show (Try.prog.info? 71).map (·.size) = some 65 by kernel_rfl)
  have HU := Aside0.mk hu
  clear hg hge hgb hgl hown hok hlen hu
  go_enter Try.func36, Try.ntmps36
  go_wp2
  go_loopg [3, 13] (s.loose.length + 1) (fun kq v3 v13 wr => ∃ k : Nat, v13 = .int .i64 k ∧ Aside0 (k + kq = s.loose.length + 1) ∧ Aside0 (Kd.R (Kd.int .i64) 3 wr w.heap.size (fun _ => True) v3 ((s.loose.take k).map (·.1))) ∧ Aside0 (Below w.heap.size w wr))
  case atStart => exact ⟨0, rfl, ⟨by omega⟩, ⟨by simpa using Kd.R_nil _ _ _ _ _⟩, ⟨Below.refl _ _⟩⟩
  case round =>
    obtain ⟨k, rfl, HQ, HR, HB⟩ := hrel
    by_cases hlt : k < s.loose.length
    · have d0 : decide (k < s.loose.length) = true := decide_eq_true hlt
      obtain ⟨go, cap, cur, hv, hgo, hh, hc, hcells⟩ := disk_loose HO.out HK.out (by omega)
      injection hv with hA _ hcv
      subst hA hcv
      have q0 : (0 : Int) ≤ (k : Int) := by omega
      have q1 : (k : Int) < (s.loose.length : Int) := by omega
      have HH := Aside0.mk ((HB.out.block go (blk_lt hh)).trans hh)
      have HC := Aside0.mk (fun j v => hcells k hlt j v)
      have HE := Aside0.mk (show (Value.int .i64 (s.loose[k]).1 :: Disk.bytes (s.loose[k]).2).length = 65 by
        have := (HK.out.loose s.loose[k] (List.getElem_mem hlt)).2.2
        simp [Disk.bytes, this])
      have HT := Aside0.mk hlt
      have HW := Aside0.mk (show s.loose.take (k + 1) = s.loose.take k ++ [s.loose[k]] from List.take_succ_eq_append_getElem hlt)
      generalize s.loose[k] = p at HC HE HW
      clear hlt hgo hh hc hcells
      cases gk with
      | zero => exact absurd HQ.out (by have := HT.out; omega)
      | succ k1 =>
      go_wp2_with (first
        | ((with_reducible refine gate_dst (N := 16) rfl ?_); refine load_blk rfl 71 (.tmp 15) rfl (Value.int .i64 p.1 :: Disk.bytes p.2) _ (by rfl) HH.out HC.out HU.out rfl (by rw [HE.out]; exact HSZ.out) ?_)
        | ((with_reducible refine gate_dst (N := 5) rfl ?_); refine box_event rfl (N := 5) rfl (cs := (Value.int .i64 0 :: Disk.bytes (List.replicate 64 0)).toArray) (t := 71) (by kernel_rfl) ?_; intro gb hgb w5 hbox hb5; have HX := Aside0.mk hbox; have HB5 := Aside0.mk hb5; have HGB := Aside0.mk hgb; clear hgb hbox hb5)
        | ((with_reducible refine gate_store (t := 71) (p := 5) rfl ?_); refine store_new rfl 71 (.tmp 5) (.tmp 16) rfl (Value.int .i64 p.1 :: Disk.bytes p.2) (by rfl) (by rfl) HX.out (by rw [HE.out]; rfl) (by rw [HE.out]; exact HSZ.out) (elem_one p) ?_; intro w6 hx6 hg6 hs6; have hc6 : w6.cell? ⟨gb, 0, none⟩ = some (.int .i64 p.1) := (blk_cell hx6 0).trans rfl; have HB6 := Aside0.mk (show Below wr.heap.size wr w6 from HB5.out.grown hg6 HB5.out.size (fun k e => by injection e with e; have := HGB.out; omega)); clear hx6 hg6 hs6)
        | ((with_reducible refine gate_builtin (b := .append) (xs := #[.tmp 17, .tmp 20]) rfl ?_); at_builtin; refine Kd.R_append (Kd.int .i64) (w0 := w) w.heap.size rfl (.tmp 17) (.tmp 20) 72 3 (.int .i64 0) 8 rfl Try.underlying72 (show (Try.prog.info? 3).map (fun i => (i.zero, i.size, i.bytes)) = some (some (.int .i64 0), 1, 8) from by kernel_rfl) rfl (by decide) (by omega) u3 ((s.loose.take k).map (·.1)) p.1 [.int .i64 p.1] (fun _ => True) (fun _ => False) rfl rfl ?aP (fun _ hk => hk.elim) ?aF ?aO ?aB ?aS ?aL ?_; (case aP => exact rfl); (case aB => exact below_weaken HB.out HB.out.size HB6.out); (case aF => exact fun _ _ => trivial); (case aO => exact Kd.R_below HR.out HB6.out); (case aS => exact Nat.le_trans HB.out.size HB6.out.size); (case aL => have := HL.out; have := HT.out; rw [List.length_map, List.length_take]; omega); intro v7 w7 ho hb hg hat; have HR7 := Aside0.mk ho; have HB7 := Aside0.mk hb; clear ho hb hg hat))
      go_roundg k1
      case measure => omega
      case rel => exact ⟨k + 1, (by first | rfl | go_num), ⟨by have := HQ.out; omega⟩, ⟨by rw [HW.out, List.map_append]; exact HR7.out⟩, HB7⟩
    · have d0 : decide (k < s.loose.length) = false := decide_eq_false hlt
      have HT := Aside0.mk (show s.loose.length ≤ k by omega)
      clear hlt
      go_wp2
      go_ret
      exact ⟨_, rfl, by have := HR.out; rw [List.take_of_length_le HT.out] at this; exact this, HB.out⟩


/-! ### sector_Disk_Read: function 16 -/
-- FN rounds=0 making=1
def sector_Disk_Read.f (s : Disk.DiskM) (a1 : Int) : Option (List Int × Int × Disk.DiskM) := if s.loose.length < 1000000 then (if Disk.there s a1 = true then some (Disk.read s a1, 0, s) else some ([], 1, s)) else none
theorem disk_loose_row {w : World} {go off : Nat} {cur : Array Value} {t : TypeId} {fr : Nat × Nat} {p : Int × List Int} (hp : p.2.length = 64) (hh : w.heap[go]? = some (.cells cur t fr))
    (hc : ∀ j v, (Value.int .i64 p.1 :: Disk.bytes p.2)[j]? = some v → cur.toList[off + j]? = some v) : Kd.C (Kd.int .u8) w (some ⟨go, off + 1, none⟩) 64 p.2 := by
  refine Kd.C_of_reads (d := 0) ⟨hp, by omega, fun _ => ⟨_, rfl, fun j hj => ?_⟩⟩
  have h1 := hc (j + 1) (.int .u8 (p.2.getD j 0)) (by rw [List.getElem?_cons_succ]; exact Disk.bytes_get (by omega))
  have he : (⟨go, off + 1, none⟩ : Addr).add j = ⟨go, off + (j + 1), none⟩ := by unfold Addr.add; split <;> simp_all; omega
  rw [he]
  simp only [World.cell?, hh]
  simpa using h1
set_option maxHeartbeats 4000000 in
set_option maxRecDepth 100000 in
open Go.Proofs.Ytjaibpphlbddoaa.Opq Go.Proofs.Ytjaibpphlbddoaa.Mid in
theorem sector_Disk_Read.calls (g : Nat) (s0_0 : Disk.DiskM) (a1 : Int) (r1 : List Int) (r2 : Int) (r3 : Disk.DiskM) (w0 w : World) (hI : IsS67 w0 w g s0_0) (hB : Below w0.heap.size w0 w) (h : sector_Disk_Read.f s0_0 a1 = some (r1, r2, r3)) :
    Calls Try.prog 16 #[.pointer (some ⟨g, 0, none⟩), .int .i64 a1] w fun e w' => ∃ v0_ : Value, e = .returned (.tuple #[v0_, .int .i64 r2]) ∧ Kd.R (Kd.int .u8) 5 w' w.heap.size (fun _ => True) v0_ r1 ∧ IsS67 w0 w' g r3 ∧ Below w0.heap.size w0 w' ∧ KeepO ts67 w0.heap.size w w' := by
  unfold sector_Disk_Read.f at h
  split at h
  case isFalse => cases h
  case isTrue hlen =>
  have HI := Aside0.mk hI
  have HB := Aside0.mk hB
  have HL := Aside0.mk hlen
  have HM := Aside0.mk (show (s0_0.loose.map (·.1)).length = s0_0.loose.length from List.length_map _)
  clear hlen hB
  cases ht : Disk.there s0_0 a1 with
  | false =>
    rw [ht, if_neg (by simp)] at h
    have h := Option.some.inj h
    injection h with h1 h
    injection h with h2 h3
    subst h1 h2 h3
    have HX := Aside0.mk (sector_Disk_Lasts.calls g s0_0 a1 [] 1 s0_0 w0 w HI.out HB.out (by unfold sector_Disk_Lasts.f; rw [ht]; rfl))
    clear hI h ht
    go_enter Try.func16, Try.ntmps16
    go_wp2_with fail
    refine HX.out.mono ?_
    rintro e w1 ⟨v0, rfl, ho0, hi1, hb1, hk1⟩
    have HO1 := Aside0.mk ho0
    have HI1 := Aside0.mk hi1
    have HB1 := Aside0.mk hb1
    have HK1 := Aside0.mk hk1
    clear HX ho0 hi1 hb1 hk1
    go_wp2_with fail
    refine (sector_Disk_Pending.calls0 g s0_0 w0 w1 HI1.out HL.out).mono ?_
    rintro e w2 ⟨v1, rfl, ho1, hb2⟩
    obtain ⟨A2, c2, rfl, _⟩ := Kd.R_reads ho1
    rw [HM.out]
    have HB2 := Aside0.mk hb2
    clear ho1 hb2
    go_wp2_with fail
    refine wp_loop_rounds 1 ?_
    rw [rounds_succ]
    by_cases hl : RowKit.wrap64 ((s0_0.loose.length : Int) - 1) ≥ 0
    · have d0 : decide (RowKit.wrap64 ((s0_0.loose.length : Int) - 1) ≥ 0) = true := decide_eq_true hl
      clear hl
      go_wp2
      go_ret2
      exact ⟨_, rfl, Kd.R_below HO1.out HB2.out, HI1.out.below HB2.out, below_weaken HB1.out HB1.out.size HB2.out, HK1.out.below_trans HB2.out⟩
    · have d0 : decide (RowKit.wrap64 ((s0_0.loose.length : Int) - 1) ≥ 0) = false := decide_eq_false hl
      clear hl
      go_wp2
      go_ret2
      exact ⟨_, rfl, Kd.R_below HO1.out HB2.out, HI1.out.below HB2.out, below_weaken HB1.out HB1.out.size HB2.out, HK1.out.below_trans HB2.out⟩
  | true =>
    rw [ht, if_pos rfl] at h
    have h := Option.some.inj h
    injection h with h1 h
    injection h with h2 h3
    subst h1 h2 h3
    have HX := Aside0.mk (sector_Disk_Lasts.calls g s0_0 a1 (Disk.sector s0_0.lasts a1) 0 s0_0 w0 w HI.out HB.out (by unfold sector_Disk_Lasts.f; rw [ht]; rfl))
    clear hI h ht
    go_enter Try.func16, Try.ntmps16
    go_wp2_with fail
    refine HX.out.mono ?_
    rintro e w1 ⟨v0, rfl, ho0, hi1, hb1, hk1⟩
    have HO1 := Aside0.mk ho0
    have HI1 := Aside0.mk hi1
    have HB1 := Aside0.mk hb1
    have HK1 := Aside0.mk hk1
    clear HX ho0 hi1 hb1 hk1
    go_wp2_with fail
    refine (sector_Disk_Pending.calls0 g s0_0 w0 w1 HI1.out HL.out).mono ?_
    rintro e w2 ⟨v1, rfl, ho1, hb2⟩
    obtain ⟨A2, c2, rfl, _⟩ := Kd.R_reads ho1
    rw [HM.out]
    have HI2 := Aside0.mk (HI1.out.below hb2)
    have HO2 := Aside0.mk (Kd.R_below HO1.out hb2)
    have HBB := Aside0.mk (below_weaken HB1.out HB1.out.size hb2)
    have HK2 := Aside0.mk (HK1.out.below_trans hb2)
    clear ho1 hb2 HI1 HO1 HB1 HK1 HI HB
    go_wp2_with fail
    go_loopg [8] (s0_0.loose.length + 1) (fun kq v8 wr => ∃ x : Int, v8 = .int .i64 x ∧ Aside0 (wr = w2) ∧ Aside0 ((kq : Int) = x + 2 ∧ x < s0_0.loose.length) ∧ Aside0 (∀ p ∈ s0_0.loose.drop (x + 1).toNat, p.1 ≠ a1))
    case atStart =>
      exact ⟨_, rfl, ⟨rfl⟩, ⟨by have := HL.out; rw [show RowKit.wrap64 ((s0_0.loose.length : Int) - 1) = (s0_0.loose.length : Int) - 1 by unfold RowKit.wrap64; omega]; omega⟩, ⟨by
        have := HL.out
        rw [show RowKit.wrap64 ((s0_0.loose.length : Int) - 1) = (s0_0.loose.length : Int) - 1 by unfold RowKit.wrap64; omega]
        rw [List.drop_of_length_le (by omega)]
        intro p hp
        cases hp⟩⟩
    case round =>
      obtain ⟨x, rfl, HW, HQ, HN⟩ := hrel
      obtain rfl := HW.out
      by_cases hx : 0 ≤ x
      · obtain ⟨m, rfl⟩ := Int.eq_ofNat_of_zero_le hx
        have hm : m < s0_0.loose.length := by have := HQ.out.2; omega
        obtain ⟨gl, vo, hg, hge, hgb, hgl, hown, hok⟩ := HI2.out
        obtain ⟨go, cap, cur, rfl, hgo, hh, hc, hcells⟩ := disk_loose hown hok (by omega)
        have hcell : wr.cell? ⟨g, 1, none⟩ = some (.slice (some ⟨go, 0, none⟩) s0_0.loose.length cap) := (blk_cell hg 1).trans rfl
        have q0 : (0 : Int) ≤ (m : Int) := by omega
        have q1 : (m : Int) < (s0_0.loose.length : Int) := by omega
        have d0 : decide ((m : Int) ≥ 0) = true := decide_eq_true q0
        have hc0 : wr.cell? ⟨go, m * 65, none⟩ = some (.int .i64 (s0_0.loose[m]).1) := by
          rw [show m * 65 = m * 65 + 0 from rfl]
          simpa [World.cell?, hh] using hcells m hm 0 _ rfl
        have HP := Aside0.mk (show (s0_0.loose[m]).2.length = 64 from (hok.loose _ (List.getElem_mem hm)).2.2)
        have HH := Aside0.mk hh
        have HC := Aside0.mk (fun j v => hcells m hm j v)
        have HM2 := Aside0.mk hm
        have HE := Aside0.mk (show s0_0.loose.drop m = s0_0.loose[m] :: s0_0.loose.drop (m + 1) from List.drop_eq_getElem_cons hm)
        have HPE := Aside0.mk (show s0_0.loose[m]? = some s0_0.loose[m] from List.getElem?_eq_getElem hm)
        generalize s0_0.loose[m] = p at hc0 HP HC HE HPE
        clear hx hm hg hge hgb hgl hown hok hgo hh hc hcells
        cases gk with
        | zero => exact absurd HQ.out.1 (by omega)
        | succ k1 =>
        by_cases he : p.1 = a1
        · have d1 : (p.1 == a1) = true := beq_iff_eq.2 he
          have HX := Aside0.mk (clone_64 HP.out (disk_loose_row (off := m * 65) HP.out HH.out HC.out))
          have HRD := Aside0.mk (show Disk.read s0_0 a1 = p.2 by
            have hm := HM2.out
            have he2 : s0_0.loose[m] = p := by have := HPE.out; rw [List.getElem?_eq_getElem hm] at this; exact Option.some.inj this
            unfold Disk.read
            rw [Disk.latest_at hm (he2 ▸ he) (by have := HN.out; rwa [show ((m : Int) + 1).toNat = m + 1 by omega] at this), he2]
            rfl)
          clear he
          go_wp2_with (go_at_call 37; refine HX.out.mono ?_; rintro e w3 ⟨v3, rfl, ho3, hb3⟩; have HO3 := Aside0.mk ho3; have HB3 := Aside0.mk hb3; clear ho3 hb3)
          go_ret2
          exact ⟨_, rfl, by rw [HRD.out]; exact Kd.R_lower HO3.out HK2.out.size, HI2.out.below HB3.out, below_weaken HBB.out HBB.out.size HB3.out, HK2.out.below_trans HB3.out⟩
        · have d1 : (p.1 == a1) = false := beq_eq_false_iff_ne.2 he
          have HN2 := Aside0.mk (show ∀ q ∈ s0_0.loose.drop m, q.1 ≠ a1 by
            rw [HE.out]
            intro q hq
            rcases List.mem_cons.1 hq with rfl | hq
            · exact he
            · have := HN.out
              rw [show ((m : Int) + 1).toNat = m + 1 by omega] at this
              exact this q hq)
          clear he
          go_wp2
          go_roundg k1
          case measure => omega
          case rel => exact ⟨(m : Int) - 1, by rw [show RowKit.wrap64 ((m : Int) - 1) = (m : Int) - 1 by have := HL.out; have := HM2.out; unfold RowKit.wrap64; omega], ⟨rfl⟩, ⟨by have := HQ.out; omega⟩, ⟨by rw [show ((m : Int) - 1 + 1).toNat = m by omega]; exact HN2.out⟩⟩
      · have d0 : decide (x ≥ 0) = false := decide_eq_false (by omega)
        have HRD := Aside0.mk (show Disk.read s0_0 a1 = Disk.sector s0_0.lasts a1 by
          unfold Disk.read
          rw [Disk.latest_none (by have := HN.out; rw [show (x + 1).toNat = 0 by omega] at this; exact this)]
          rfl)
        clear hx
        go_wp2
        go_ret2
        exact ⟨_, rfl, by rw [HRD.out]; exact HO2.out, HI2.out, HBB.out, HK2.out⟩


-- NOT PRINTED: function 60 (utf8_RuneCountInString)

-- NOT PRINTED: function 57 (utf8_RuneCount)

-- NOT PRINTED: function 58 (bytealg_Count)

/-! ### bytes_Equal: function 53 -/
def bytes_Equal.f (l0 : List Int) (l1 : List Int) : Option (Bool) := some ((strOfNums l0).toList == (strOfNums l1).toList)
set_option maxHeartbeats 8000000 in
set_option maxRecDepth 100000 in
theorem bytes_Equal.calls (A0 : Option Addr) (c0 : Nat) (l0 : List Int) (A1 : Option Addr) (c1 : Nat) (l1 : List Int) (r : Bool) (w : World) (hr0 : Kd.C (Kd.int .u8) w A0 l0.length l0) (hc0 : l0.length ≤ c0) (hr1 : Kd.C (Kd.int .u8) w A1 l1.length l1) (hc1 : l1.length ≤ c1) (h : bytes_Equal.f l0 l1 = some r) :
    Calls Try.prog 53 #[.slice A0 l0.length c0, .slice A1 l1.length c1] w fun e w' => e = .returned (.bool r) ∧ Drawn0 w w' := by
  have HR0 := Aside0.mk hr0
  have HC0 := Aside0.mk hc0
  clear hr0 hc0
  have HR1 := Aside0.mk hr1
  have HC1 := Aside0.mk hc1
  clear hr1 hc1
  have H : (some ((strOfNums l0).toList == (strOfNums l1).toList)) = some r := h
  clear h
  obtain rfl := Option.some.inj H
  have hcv3 := Kd.C_string (P := Try.prog) (A := A0) (c := c0) Try.underlying22 Try.underlying5 Try.underlying9 HR0.out
  have hcv4 := Kd.C_string (P := Try.prog) (A := A1) (c := c1) Try.underlying22 Try.underlying5 Try.underlying9 HR1.out
  go_enter Try.func53, Try.ntmps53
  go_wp2
  go_ret
  exact ⟨by first | rfl | (simp; done) | (simp [*]; done), by repeat (first | exact Drawn0.refl _ | apply Drawn0.step)⟩

-- NOT PRINTED: function 65 (bytealg_IndexByte)

-- NOT PRINTED: function 61 (bytes_IndexByte)

-- NOT PRINTED: function 62 (bytealg_Index)

/-! ### bytealg_Cutover: function 63 -/
-- FN rounds=0 making=1
def bytealg_Cutover.f : Nat := 0


/-! ### bytealg_hashStr_byte: function 66 -/
-- FN rounds=0 making=1
def bytealg_hashStr_byte.f : Nat := 0


/-! ### bytealg_IndexRabinKarp_byte: function 64 -/
-- FN rounds=0 making=1
def bytealg_IndexRabinKarp_byte.f : Nat := 0


-- NOT PRINTED: function 59 (bytes_Index)

-- NOT PRINTED: function 54 (bytes_Count)

/-! ### region_zero: function 41 -/
-- FN rounds=0 making=1
-- IMPORT Derived.Lib.Bytealg
-- IMPORT Derived.Lib.BytesEntry
-- IMPORT Derived.Laws.Externs
def region_zero.f (l0 : List Int) : Option Bool := some (l0.all (fun x => (x.toNat.toUInt8 == 0)))
theorem count_run (A : Option Addr) (c : Nat) (l : List Int) (w : World) (h : 0 < l.length → ∃ ad, A = some ad ∧ ∀ j, j < l.length → w.cell? (ad.add j) = some (.int .u8 (l.getD j 0))) :
    (Extern.BytealgCount.count #[.slice A l.length c, .int .u8 0]).run Try.prog w = .ok (.int .i64 (Lib.countByte (Lib.bytesOf l) 0)) w := by
  have hb : (Extern.Bytes.bytesOf (.slice A l.length c)).run Try.prog w = .ok ⟨(Lib.bytesOf l).toArray⟩ w := by
    cases A with
    | none =>
      obtain rfl : l = [] := by
        by_cases h0 : 0 < l.length
        · obtain ⟨ad, he, _⟩ := h h0
          cases he
        · exact List.eq_nil_of_length_eq_zero (by omega)
      rfl
    | some ad =>
      have hl := Lib.run_loadBytesX (P := Try.prog) w l ad .empty (fun j x hj => by
        have hjl : j < l.length := (List.getElem?_eq_some_iff.1 hj).1
        obtain ⟨ad2, he, hc⟩ := h (by omega)
        injection he with he
        subst he
        rw [hc j hjl, List.getD_eq_getElem?_getD, hj]
        rfl)
      refine Eq.trans hl ?_
      congr 1
      apply ByteArray.ext
      simp
  have hs := Lib.run_countString (P := Try.prog) ⟨(Lib.bytesOf l).toArray⟩ 0 w
  change Sem.run Try.prog (Extern.Bytes.bytesOf (.string ⟨(Lib.bytesOf l).toArray⟩) >>= fun b => _) w = _ at hs
  change Sem.run Try.prog (Extern.Bytes.bytesOf (.slice A l.length c) >>= fun b => _) w = _
  rw [Sem.run_bind, hb]
  exact hs
theorem bytes_Count_one (A : Option Addr) (c b2 d : Nat) (l : List Int) (w : World) (hr : Kd.C (Kd.int .u8) w A l.length l) (hc2 : w.cell? ⟨b2, 0, none⟩ = some (.int .u8 0)) :
    Calls Try.prog 54 #[.slice A l.length c, .slice (some ⟨b2, 0, none⟩) 1 d] w fun e w' => e = .returned (.int .i64 (Lib.countByte (Lib.bytesOf l) 0)) ∧ w = w' := by
  obtain ⟨_, _, hcells⟩ := Kd.reads_of_C (d := (0 : Int)) hr
  have hx := count_run A c l w hcells
  have HX := Aside0.mk hx
  clear hx hcells hr
  go_enter Try.func54, Try.ntmps54
  go_wp2
  rw [run_callFunc_extern Try.func58 (by kernel_rfl) (by kernel_rfl) (by kernel_rfl) (e := Extern.BytealgCount.count) (by kernel_rfl), HX.out]
  simp only [Result.andThen]
  rw [Oper.upon_value]
  go_wp2
  go_ret
  exact ⟨rfl, rfl⟩
theorem count_all (l : List Int) : (Lib.countByte (Lib.bytesOf l) 0 = l.length) ↔ (l.all (fun x => (x.toNat.toUInt8 == 0))) = true := by
  unfold Lib.countByte Lib.bytesOf
  rw [show l.length = (l.map (fun n => n.toNat.toUInt8)).length by simp, List.count_eq_length]
  simp only [List.mem_map, List.all_eq_true, beq_iff_eq]
  constructor
  · intro h x hx
    exact (h _ ⟨x, hx, rfl⟩).symm
  · rintro h _ ⟨x, hx, rfl⟩
    exact (h x hx).symm
theorem region_zero.calls (A0 : Option Addr) (c0 : Nat) (l0 : List Int) (r : Bool) (w : World) (hr0 : Kd.C (Kd.int .u8) w A0 l0.length l0) (hc0 : l0.length ≤ c0) (h : region_zero.f l0 = some r) :
    Calls Try.prog 41 #[.slice A0 l0.length c0] w fun e w' => e = .returned (.bool r) ∧ Below w.heap.size w w' := by
  have h := Option.some.inj h
  have HR := Aside0.mk hr0
  have HE := Aside0.mk (show (((Lib.countByte (Lib.bytesOf l0) 0 : Nat) : Int) == (l0.length : Int)) = r by
    rw [← h]
    have hc := count_all l0
    by_cases hh : Lib.countByte (Lib.bytesOf l0) 0 = l0.length
    · rw [hc.1 hh, hh, beq_self_eq_true]
    · have h2 : (l0.all (fun x => (x.toNat.toUInt8 == 0))) = false := Bool.eq_false_iff.2 (fun e => hh (hc.2 e))
      rw [h2]
      exact beq_eq_false_iff_ne.2 (fun e => hh (by omega)))
  clear hr0 h
  go_enter Try.func41, Try.ntmps41
  go_wp2_with (go_at_call 54; refine (bytes_Count_one _ _ _ _ _ _ (Kd.C_alloc HR.out _) (by simp)).mono ?_; rintro e w' ⟨rfl, rfl⟩)
  go_ret
  exact ⟨by rw [← HE.out]; first | done | rfl, below_alloc (Below.refl _ _) _⟩


/-! ### region_Get: function 52 -/
-- FN rounds=0 making=0
-- IMPORT Derived.Test.YtjaibpphlbddoaaHelp
open Go.Proofs.Ytjaibpphlbddoaa.Help
def getS : List Int → Int → Int
  | [], v => v
  | b :: l, v => getS l (Go.bits .or .u32 ((v * 256) % 4294967296) (b % 4294967296))
def region_Get.f (l0 : List Int) : Option Int := some (getS (l0.take 4) 0)
set_option maxHeartbeats 2000000 in
set_option maxRecDepth 100000 in
theorem region_Get.calls (A0 : Option Addr) (c0 : Nat) (l0 : List Int) (r : Int) (w : World) (hr0 : Kd.C (Kd.int .u8) w A0 l0.length l0) (hc0 : l0.length ≤ c0) (h : region_Get.f l0 = some r) :
    Calls Try.prog 52 #[.slice A0 l0.length c0] w fun e w' => e = .returned (.int .u32 r) ∧ Drawn0 w w' := by
  obtain ⟨i0, hi0, _⟩ := info_parts info5
  have HM := Aside0.mk (Kd.C_max hr0)
  have HR := Aside0.mk hr0
  have HG := Aside0.mk (show getS (l0.take 4) 0 = r from Option.some.inj h)
  clear hr0 h
  obtain ⟨m, hm, hm4, hml, hmt, hcut⟩ : ∃ m : Nat, (m : Int) = (if 4 < (l0.length : Int) then 4 else (l0.length : Int)) ∧ m ≤ 4 ∧ m ≤ l0.length ∧ l0.take 4 = l0.take m ∧
      ∀ W : World, (Instr.slice 22 (.slice A0 l0.length c0) none (some (.int .i64 (m : Int))) none).run Try.prog W = .ok (.slice A0 m c0) W := by
    by_cases h4 : 4 < (l0.length : Int)
    · refine ⟨4, by rw [if_pos h4]; rfl, by omega, by omega, rfl, ?_⟩
      have := cut_to 22 5 .i64 (P := Try.prog) Try.underlying22 hi0 A0 l0.length c0 (4 : Int) (by omega) (by omega) hc0
      exact this
    · refine ⟨l0.length, by rw [if_neg h4], by omega, by omega, ?_, ?_⟩
      · rw [List.take_of_length_le (by omega), List.take_of_length_le (by omega)]
      · have := cut_to 22 5 .i64 (P := Try.prog) Try.underlying22 hi0 A0 l0.length c0 (l0.length : Int) (by omega) (by omega) hc0
        rw [Int.toNat_natCast] at this
        exact this
  have HC := Aside0.mk hc0
  have HM4 := Aside0.mk hm4
  have HML := Aside0.mk hml
  rw [hmt] at HG
  have HLEN := Aside0.mk (show (l0.take m).length = m by rw [List.length_take]; omega)
  have hmin : (if 4 < (l0.length : Int) then (4 : Int) else (l0.length : Int)) = (m : Int) := hm.symm
  clear hc0 hm4 hml hmt hm
  go_enter Try.func52, Try.ntmps52
  go_wp2_with fail
  go_loopg [3, 12] (m + 1) (fun kq v3 v12 wr => ∃ (v x : Int), v3 = .int .u32 v ∧ v12 = .int .i64 x ∧ Aside0 (0 ≤ x ∧ x + kq = m + 1 ∧ getS ((l0.take m).drop x.toNat) v = r) ∧ Drawn0 w wr)
  case atStart => exact ⟨0, 0, rfl, rfl, ⟨by simp, by simp, HG.out⟩, Drawn0.refl _⟩
  case round =>
    clear HG
    obtain ⟨v, x, rfl, rfl, HF, ⟨nd, rfl⟩⟩ := hrel
    by_cases hlt : x < (m : Int)
    · have q1 := hlt
      have p1 := HF.out.1
      have c4b0 : decide (x < (m : Int)) = true := decide_eq_true hlt
      have HL := Aside0.mk hlt
      have ql : x < (l0.length : Int) := by have := HML.out; omega
      obtain ⟨ad, e, h0⟩ := Kd.at_int (Kd.C_drewN HR.out nd) x p1 ql
      cases e
      have HD := Aside0.mk (show (l0.take m).drop x.toNat = rd l0 x :: (l0.take m).drop (x + 1).toNat by
        rw [drop_rd _ x p1 (by rw [HLEN.out]; exact q1), rd_take l0 m x p1 q1])
      have HF2 := Aside0.mk (show getS ((l0.take m).drop (x + 1).toNat) (Go.bits .or .u32 ((v * 256) % 4294967296) ((rd l0 x) % 4294967296)) = r by
        rw [← HF.out.2.2, HD.out]; rfl)
      clear hlt ql hcut hmin
      replace p1 := eq_true p1
      replace q1 := eq_true q1
      cases gk with
      | zero => exact absurd HF.out.2.1 (by have := HL.out; omega)
      | succ k1 =>
        go_wp2
        go_roundg k1
        case measure => omega
        case rel =>
          refine ⟨_, x + 1, rfl, (by have hw : wrap64 (x + 1) = x + 1 := (by have := HM4.out; have := HL.out; have := HF.out.1; unfold wrap64; omega); first | rfl | (simp [hw]; done)), ⟨by have := HF.out.1; omega, by have := HF.out.2.1; omega, HF2.out⟩, ⟨nd, rfl⟩⟩
    · have c4b0 : decide (x < (m : Int)) = false := decide_eq_false hlt
      have HE := Aside0.mk (show v = r by
        rw [← HF.out.2.2, List.drop_of_length_le (by rw [HLEN.out]; omega)]; rfl)
      clear hlt hcut hmin
      go_wp2
      go_ret
      exact ⟨by rw [← HE.out]; rfl, ⟨nd, rfl⟩⟩


end Go.Proofs.Ytjaibpphlbddoaa.PRegionTorn
