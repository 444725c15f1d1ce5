-- Lean text by a program of this repo (wip/tools/printx.py), out of Lean's own print of the translation
import Derived.Test.YtjaibpphlbddoaaLands
import Derived.Laws.MakeOwn
import Derived.Laws.CopyOwn
import Derived.Lib.SlBytesConst
import Derived.Test.YtjaibpphlbddoaaHelp
import Derived.Test.YtjaibpphlbddoaaMid
import Derived.Test.YtjaibpphlbddoaaPSectorLandsx0
import Derived.Test.YtjaibpphlbddoaaPSectorLandsx1
namespace Go.Proofs.Ytjaibpphlbddoaa.PSectorLands
open Go.RowKit Go.Proofs.YtjaibpphlbddoaaW.PrintWords Go.Proofs.YtjaibpphlbddoaaW.PrintLast Go.Proofs.YtjaibpphlbddoaaW.PrintMore
attribute [local go_sem] max2_int min2_int max_two min_two max_three min_three max_four min_four   -- for this text's walks alone
set_option linter.unusedVariables false
set_option linter.unusedSimpArgs false

/-! ### sector_Disk_Lasts: function 20 -/
-- FN rounds=0 making=1
def sector_Disk_Lasts.f (s : Disk.DiskM) (a1 : Int) : Option (List Int × Int × Disk.DiskM) := if Disk.there s a1 = true then some (Disk.sector s.lasts a1, 0, s) else some ([], 1, s)
theorem clone_64 {w : World} {A : Option Addr} {l : List Int} (hl : l.length = 64) (hC : Kd.C (Kd.int .u8) w A 64 l) :
    Calls Try.prog 37 #[.slice A 64 64] w fun e w' => ∃ v0_ : Value, e = .returned (v0_) ∧ Kd.R (Kd.int .u8) 5 w' w.heap.size (fun _ => True) v0_ l ∧ Below w.heap.size w w' := by
  have h := bytes_Clone.calls A 64 l l w (by rw [hl]; exact hC) (by rw [hl]; exact Nat.le_refl _) (by unfold bytes_Clone.f; rw [if_pos (by rw [hl]; decide)])
  rw [hl] at h
  exact h
theorem disk_row {w : World} {g off n : Nat} {l : List Int} {t : TypeId} {fr : Nat × Nat} (hb : w.heap[g]? = some (.cells (Disk.bytes l).toArray t fr)) (h : off + n ≤ l.length) (hn : n ≤ 9223372036854775807) : Kd.C (Kd.int .u8) w (some ⟨g, off, none⟩) n ((l.drop off).take n) := by
  refine Kd.C_of_reads (d := 0) ⟨by rw [List.length_take, List.length_drop]; omega, hn, fun _ => ⟨_, rfl, fun j hj => ?_⟩⟩
  have hj2 : (Disk.bytes l)[off + j]? = some (.int .u8 (l.getD (off + j) 0)) := Disk.bytes_get (by omega)
  have hc : w.cell? ⟨g, off + j, none⟩ = some (.int .u8 (l.getD (off + j) 0)) := by
    simp only [World.cell?, hb]
    simpa using hj2
  have he : (⟨g, off, none⟩ : Addr).add j = ⟨g, off + j, none⟩ := by unfold Addr.add; split <;> simp_all
  rw [he, hc, List.getD_eq_getElem?_getD (l := (l.drop off).take n), List.getElem?_take, if_pos (by omega), List.getElem?_drop, ← List.getD_eq_getElem?_getD]
set_option maxHeartbeats 2000000 in
open Go.Proofs.Ytjaibpphlbddoaa.Opq in
theorem sector_Disk_Lasts.calls (g : Nat) (s0_0 : Disk.DiskM) (a1 : Int) (r1 : List Int) (r2 : Int) (r3 : Disk.DiskM) (w0 w : World) (hI : IsS67 w0 w g s0_0) (hB : Below w0.heap.size w0 w) (h : sector_Disk_Lasts.f s0_0 a1 = some (r1, r2, r3)) :
    Calls Try.prog 20 #[.pointer (some ⟨g, 0, none⟩), .int .i64 a1] w fun e w' => ∃ v0_ : Value, e = .returned (.tuple #[v0_, .int .i64 r2]) ∧ Kd.R (Kd.int .u8) 5 w' w.heap.size (fun _ => True) v0_ r1 ∧ IsS67 w0 w' g r3 ∧ Below w0.heap.size w0 w' ∧ Go.Proofs.Ytjaibpphlbddoaa.Opq.KeepO ts67 w0.heap.size w w' := by
  unfold sector_Disk_Lasts.f at h
  have HI := Aside0.mk hI
  obtain ⟨gl, vo, hg, hge, hgb, hgl, hown, hok⟩ := hI
  have hcell : w.cell? ⟨g, 0, none⟩ = some (.slice (some ⟨gl, 0, none⟩) (s0_0.lasts.length / 64) (s0_0.lasts.length / 64)) := (blk_cell hg 0).trans rfl
  have HB := Aside0.mk hB
  cases ht : Disk.there s0_0 a1 with
  | false =>
    rw [ht, if_neg (by simp)] at h
    have h := Option.some.inj h
    injection h with h1 h
    injection h with h2 h3
    subst h1 h2 h3
    have HT := Aside0.mk ht
    clear hg hge hgb hgl hown hok hB ht h
    go_enter Try.func20, Try.ntmps20
    go_wp2_with (go_at_call 34; refine (sector_Disk_there.calls0 g s0_0 a1 w0 _ HI.out).mono ?_; rw [HT.out]; rintro e w' ⟨rfl, rfl⟩)
    go_ret2
    exact ⟨_, rfl, Kd.R_nil _ _ _ _ _, HI.out, HB.out, KeepO.refl _ _ _⟩
  | true =>
    rw [ht, if_pos rfl] at h
    have h := Option.some.inj h
    injection h with h1 h
    injection h with h2 h3
    subst h1 h2 h3
    obtain ⟨p0, p1, p2⟩ := Disk.there_in hok ht
    have HT := Aside0.mk ht
    have HC := Aside0.mk (disk_row hgl (off := a1.toNat * 64) (n := 64) p2 (by omega))
    have HS := Aside0.mk (Disk.sector_length p2)
    have HX := Aside0.mk (clone_64 HS.out HC.out)
    clear hg hge hgb hgl hown hok hB ht h p2
    go_enter Try.func20, Try.ntmps20
    go_wp2_with (first | (go_at_call 34; refine (sector_Disk_there.calls0 g s0_0 a1 w0 _ HI.out).mono ?_; rw [HT.out]; rintro e w' ⟨rfl, rfl⟩) | (go_at_call 37; refine HX.out.mono ?_; rintro e w1 ⟨v0, rfl, ho0, hb⟩; have HO := Aside0.mk ho0; have HB1 := Aside0.mk hb; clear ho0 hb))
    go_ret2
    exact ⟨_, rfl, HO.out, HI.out.below HB1.out, below_weaken HB.out HB.out.size HB1.out, KeepO.of_below HB1.out⟩


/-! ### sector_Disk_Pending: function 36 -/
-- FN rounds=0 making=1
-- IMPORT Derived.Test.YtjaibpphlbddoaaMid
-- IMPORT Derived.Test.YtjaibpphlbddoaaHelp
def sector_Disk_Pending.f (s : Disk.DiskM) : Option (List Int × Disk.DiskM) := if s.loose.length < 1000000 then some (s.loose.map (·.1), s) else none
set_option maxHeartbeats 2000000 in
set_option maxRecDepth 100000 in
open Go.Proofs.Ytjaibpphlbddoaa.Opq Go.Proofs.Ytjaibpphlbddoaa.Mid in
theorem sector_Disk_Pending.calls0 (g : Nat) (s : Disk.DiskM) (w0 w : World) (hI : IsS67 w0 w g s) (hlen : s.loose.length < 1000000) :
    Calls Try.prog 36 #[.pointer (some ⟨g, 0, none⟩)] w fun e w' => ∃ v0_ : Value, e = .returned v0_ ∧ Kd.R (Kd.int .i64) 3 w' w.heap.size (fun _ => True) v0_ (s.loose.map (·.1)) ∧ Below w.heap.size w w' := by
  obtain ⟨gl, vo, hg, hge, hgb, hgl, hown, hok⟩ := hI
  obtain ⟨Av, cv, rfl, _⟩ := disk_loose_nil hown
  have hcell : w.cell? ⟨g, 1, none⟩ = some (.slice Av s.loose.length cv) := (blk_cell hg 1).trans rfl
  have HO := Aside0.mk hown
  have HK := Aside0.mk hok
  have HL := Aside0.mk hlen
  have hu := Try.underlying71
  have HSZ := Aside0.mk (show (Try.prog.info? 71).map (·.size) = some 65 by kernel_rfl)
  have HU := Aside0.mk hu
  clear hg hge hgb hgl hown hok hlen hu
  go_enter Try.func36, Try.ntmps36
  go_wp2
  go_loopg [3, 13] (s.loose.length + 1) (fun kq v3 v13 wr => ∃ k : Nat, v13 = .int .i64 k ∧ Aside0 (k + kq = s.loose.length + 1) ∧ Aside0 (Kd.R (Kd.int .i64) 3 wr w.heap.size (fun _ => True) v3 ((s.loose.take k).map (·.1))) ∧ Aside0 (Below w.heap.size w wr))
  case atStart => exact ⟨0, rfl, ⟨by omega⟩, ⟨by simpa using Kd.R_nil _ _ _ _ _⟩, ⟨Below.refl _ _⟩⟩
  case round =>
    obtain ⟨k, rfl, HQ, HR, HB⟩ := hrel
    by_cases hlt : k < s.loose.length
    · have d0 : decide (k < s.loose.length) = true := decide_eq_true hlt
      obtain ⟨go, cap, cur, hv, hgo, hh, hc, hcells⟩ := disk_loose HO.out HK.out (by omega)
      injection hv with hA _ hcv
      subst hA hcv
      have q0 : (0 : Int) ≤ (k : Int) := by omega
      have q1 : (k : Int) < (s.loose.length : Int) := by omega
      have HH := Aside0.mk ((HB.out.block go (blk_lt hh)).trans hh)
      have HC := Aside0.mk (fun j v => hcells k hlt j v)
      have HE := Aside0.mk (show (Value.int .i64 (s.loose[k]).1 :: Disk.bytes (s.loose[k]).2).length = 65 by
        have := (HK.out.loose s.loose[k] (List.getElem_mem hlt)).2.2
        simp [Disk.bytes, this])
      have HT := Aside0.mk hlt
      have HW := Aside0.mk (show s.loose.take (k + 1) = s.loose.take k ++ [s.loose[k]] from List.take_succ_eq_append_getElem hlt)
      generalize s.loose[k] = p at HC HE HW
      clear hlt hgo hh hc hcells
      cases gk with
      | zero => exact absurd HQ.out (by have := HT.out; omega)
      | succ k1 =>
      go_wp2_with (first
        | ((with_reducible refine gate_dst (N := 16) rfl ?_); refine load_blk rfl 71 (.tmp 15) rfl (Value.int .i64 p.1 :: Disk.bytes p.2) _ (by rfl) HH.out HC.out HU.out rfl (by rw [HE.out]; exact HSZ.out) ?_)
        | ((with_reducible refine gate_dst (N := 5) rfl ?_); refine box_event rfl (N := 5) rfl (cs := (Value.int .i64 0 :: Disk.bytes (List.replicate 64 0)).toArray) (t := 71) (by kernel_rfl) ?_; intro gb hgb w5 hbox hb5; have HX := Aside0.mk hbox; have HB5 := Aside0.mk hb5; have HGB := Aside0.mk hgb; clear hgb hbox hb5)
        | ((with_reducible refine gate_store (t := 71) (p := 5) rfl ?_); refine store_new rfl 71 (.tmp 5) (.tmp 16) rfl (Value.int .i64 p.1 :: Disk.bytes p.2) (by rfl) (by rfl) HX.out (by rw [HE.out]; rfl) (by rw [HE.out]; exact HSZ.out) (elem_one p) ?_; intro w6 hx6 hg6 hs6; have hc6 : w6.cell? ⟨gb, 0, none⟩ = some (.int .i64 p.1) := (blk_cell hx6 0).trans rfl; have HB6 := Aside0.mk (show Below wr.heap.size wr w6 from HB5.out.grown hg6 HB5.out.size (fun k e => by injection e with e; have := HGB.out; omega)); clear hx6 hg6 hs6)
        | ((with_reducible refine gate_builtin (b := .append) (xs := #[.tmp 17, .tmp 20]) rfl ?_); at_builtin; refine Kd.R_append (Kd.int .i64) (w0 := w) w.heap.size rfl (.tmp 17) (.tmp 20) 72 3 (.int .i64 0) 8 rfl Try.underlying72 (show (Try.prog.info? 3).map (fun i => (i.zero, i.size, i.bytes)) = some (some (.int .i64 0), 1, 8) from by kernel_rfl) rfl (by decide) (by omega) u3 ((s.loose.take k).map (·.1)) p.1 [.int .i64 p.1] (fun _ => True) (fun _ => False) rfl rfl ?aP (fun _ hk => hk.elim) ?aF ?aO ?aB ?aS ?aL ?_; (case aP => exact rfl); (case aB => exact below_weaken HB.out HB.out.size HB6.out); (case aF => exact fun _ _ => trivial); (case aO => exact Kd.R_below HR.out HB6.out); (case aS => exact Nat.le_trans HB.out.size HB6.out.size); (case aL => have := HL.out; have := HT.out; rw [List.length_map, List.length_take]; omega); intro v7 w7 ho hb hg hat; have HR7 := Aside0.mk ho; have HB7 := Aside0.mk hb; clear ho hb hg hat))
      go_roundg k1
      case measure => omega
      case rel => exact ⟨k + 1, (by first | rfl | go_num), ⟨by have := HQ.out; omega⟩, ⟨by rw [HW.out, List.map_append]; exact HR7.out⟩, HB7⟩
    · have d0 : decide (k < s.loose.length) = false := decide_eq_false hlt
      have HT := Aside0.mk (show s.loose.length ≤ k by omega)
      clear hlt
      go_wp2
      go_ret
      exact ⟨_, rfl, by have := HR.out; rw [List.take_of_length_le HT.out] at this; exact this, HB.out⟩


/-! ### sector_Disk_Read: function 16 -/
-- FN rounds=0 making=1
def sector_Disk_Read.f (s : Disk.DiskM) (a1 : Int) : Option (List Int × Int × Disk.DiskM) := if s.loose.length < 1000000 then (if Disk.there s a1 = true then some (Disk.read s a1, 0, s) else some ([], 1, s)) else none
theorem disk_loose_row {w : World} {go off : Nat} {cur : Array Value} {t : TypeId} {fr : Nat × Nat} {p : Int × List Int} (hp : p.2.length = 64) (hh : w.heap[go]? = some (.cells cur t fr))
    (hc : ∀ j v, (Value.int .i64 p.1 :: Disk.bytes p.2)[j]? = some v → cur.toList[off + j]? = some v) : Kd.C (Kd.int .u8) w (some ⟨go, off + 1, none⟩) 64 p.2 := by
  refine Kd.C_of_reads (d := 0) ⟨hp, by omega, fun _ => ⟨_, rfl, fun j hj => ?_⟩⟩
  have h1 := hc (j + 1) (.int .u8 (p.2.getD j 0)) (by rw [List.getElem?_cons_succ]; exact Disk.bytes_get (by omega))
  have he : (⟨go, off + 1, none⟩ : Addr).add j = ⟨go, off + (j + 1), none⟩ := by unfold Addr.add; split <;> simp_all; omega
  rw [he]
  simp only [World.cell?, hh]
  simpa using h1
set_option maxHeartbeats 4000000 in
set_option maxRecDepth 100000 in
open Go.Proofs.Ytjaibpphlbddoaa.Opq Go.Proofs.Ytjaibpphlbddoaa.Mid in
theorem sector_Disk_Read.calls (g : Nat) (s0_0 : Disk.DiskM) (a1 : Int) (r1 : List Int) (r2 : Int) (r3 : Disk.DiskM) (w0 w : World) (hI : IsS67 w0 w g s0_0) (hB : Below w0.heap.size w0 w) (h : sector_Disk_Read.f s0_0 a1 = some (r1, r2, r3)) :
    Calls Try.prog 16 #[.pointer (some ⟨g, 0, none⟩), .int .i64 a1] w fun e w' => ∃ v0_ : Value, e = .returned (.tuple #[v0_, .int .i64 r2]) ∧ Kd.R (Kd.int .u8) 5 w' w.heap.size (fun _ => True) v0_ r1 ∧ IsS67 w0 w' g r3 ∧ Below w0.heap.size w0 w' ∧ KeepO ts67 w0.heap.size w w' := by
  unfold sector_Disk_Read.f at h
  split at h
  case isFalse => cases h
  case isTrue hlen =>
  have HI := Aside0.mk hI
  have HB := Aside0.mk hB
  have HL := Aside0.mk hlen
  have HM := Aside0.mk (show (s0_0.loose.map (·.1)).length = s0_0.loose.length from List.length_map _)
  clear hlen hB
  cases ht : Disk.there s0_0 a1 with
  | false =>
    rw [ht, if_neg (by simp)] at h
    have h := Option.some.inj h
    injection h with h1 h
    injection h with h2 h3
    subst h1 h2 h3
    have HX := Aside0.mk (sector_Disk_Lasts.calls g s0_0 a1 [] 1 s0_0 w0 w HI.out HB.out (by unfold sector_Disk_Lasts.f; rw [ht]; rfl))
    clear hI h ht
    go_enter Try.func16, Try.ntmps16
    go_wp2_with fail
    refine HX.out.mono ?_
    rintro e w1 ⟨v0, rfl, ho0, hi1, hb1, hk1⟩
    have HO1 := Aside0.mk ho0
    have HI1 := Aside0.mk hi1
    have HB1 := Aside0.mk hb1
    have HK1 := Aside0.mk hk1
    clear HX ho0 hi1 hb1 hk1
    go_wp2_with fail
    refine (sector_Disk_Pending.calls0 g s0_0 w0 w1 HI1.out HL.out).mono ?_
    rintro e w2 ⟨v1, rfl, ho1, hb2⟩
    obtain ⟨A2, c2, rfl, _⟩ := Kd.R_reads ho1
    rw [HM.out]
    have HB2 := Aside0.mk hb2
    clear ho1 hb2
    go_wp2_with fail
    refine wp_loop_rounds 1 ?_
    rw [rounds_succ]
    by_cases hl : RowKit.wrap64 ((s0_0.loose.length : Int) - 1) ≥ 0
    · have d0 : decide (RowKit.wrap64 ((s0_0.loose.length : Int) - 1) ≥ 0) = true := decide_eq_true hl
      clear hl
      go_wp2
      go_ret2
      exact ⟨_, rfl, Kd.R_below HO1.out HB2.out, HI1.out.below HB2.out, below_weaken HB1.out HB1.out.size HB2.out, HK1.out.below_trans HB2.out⟩
    · have d0 : decide (RowKit.wrap64 ((s0_0.loose.length : Int) - 1) ≥ 0) = false := decide_eq_false hl
      clear hl
      go_wp2
      go_ret2
      exact ⟨_, rfl, Kd.R_below HO1.out HB2.out, HI1.out.below HB2.out, below_weaken HB1.out HB1.out.size HB2.out, HK1.out.below_trans HB2.out⟩
  | true =>
    rw [ht, if_pos rfl] at h
    have h := Option.some.inj h
    injection h with h1 h
    injection h with h2 h3
    subst h1 h2 h3
    have HX := Aside0.mk (sector_Disk_Lasts.calls g s0_0 a1 (Disk.sector s0_0.lasts a1) 0 s0_0 w0 w HI.out HB.out (by unfold sector_Disk_Lasts.f; rw [ht]; rfl))
    clear hI h ht
    go_enter Try.func16, Try.ntmps16
    go_wp2_with fail
    refine HX.out.mono ?_
    rintro e w1 ⟨v0, rfl, ho0, hi1, hb1, hk1⟩
    have HO1 := Aside0.mk ho0
    have HI1 := Aside0.mk hi1
    have HB1 := Aside0.mk hb1
    have HK1 := Aside0.mk hk1
    clear HX ho0 hi1 hb1 hk1
    go_wp2_with fail
    refine (sector_Disk_Pending.calls0 g s0_0 w0 w1 HI1.out HL.out).mono ?_
    rintro e w2 ⟨v1, rfl, ho1, hb2⟩
    obtain ⟨A2, c2, rfl, _⟩ := Kd.R_reads ho1
    rw [HM.out]
    have HI2 := Aside0.mk (HI1.out.below hb2)
    have HO2 := Aside0.mk (Kd.R_below HO1.out hb2)
    have HBB := Aside0.mk (below_weaken HB1.out HB1.out.size hb2)
    have HK2 := Aside0.mk (HK1.out.below_trans hb2)
    clear ho1 hb2 HI1 HO1 HB1 HK1 HI HB
    go_wp2_with fail
    go_loopg [8] (s0_0.loose.length + 1) (fun kq v8 wr => ∃ x : Int, v8 = .int .i64 x ∧ Aside0 (wr = w2) ∧ Aside0 ((kq : Int) = x + 2 ∧ x < s0_0.loose.length) ∧ Aside0 (∀ p ∈ s0_0.loose.drop (x + 1).toNat, p.1 ≠ a1))
    case atStart =>
      exact ⟨_, rfl, ⟨rfl⟩, ⟨by have := HL.out; rw [show RowKit.wrap64 ((s0_0.loose.length : Int) - 1) = (s0_0.loose.length : Int) - 1 by unfold RowKit.wrap64; omega]; omega⟩, ⟨by
        have := HL.out
        rw [show RowKit.wrap64 ((s0_0.loose.length : Int) - 1) = (s0_0.loose.length : Int) - 1 by unfold RowKit.wrap64; omega]
        rw [List.drop_of_length_le (by omega)]
        intro p hp
        cases hp⟩⟩
    case round =>
      obtain ⟨x, rfl, HW, HQ, HN⟩ := hrel
      obtain rfl := HW.out
      by_cases hx : 0 ≤ x
      · obtain ⟨m, rfl⟩ := Int.eq_ofNat_of_zero_le hx
        have hm : m < s0_0.loose.length := by have := HQ.out.2; omega
        obtain ⟨gl, vo, hg, hge, hgb, hgl, hown, hok⟩ := HI2.out
        obtain ⟨go, cap, cur, rfl, hgo, hh, hc, hcells⟩ := disk_loose hown hok (by omega)
        have hcell : wr.cell? ⟨g, 1, none⟩ = some (.slice (some ⟨go, 0, none⟩) s0_0.loose.length cap) := (blk_cell hg 1).trans rfl
        have q0 : (0 : Int) ≤ (m : Int) := by omega
        have q1 : (m : Int) < (s0_0.loose.length : Int) := by omega
        have d0 : decide ((m : Int) ≥ 0) = true := decide_eq_true q0
        have hc0 : wr.cell? ⟨go, m * 65, none⟩ = some (.int .i64 (s0_0.loose[m]).1) := by
          rw [show m * 65 = m * 65 + 0 from rfl]
          simpa [World.cell?, hh] using hcells m hm 0 _ rfl
        have HP := Aside0.mk (show (s0_0.loose[m]).2.length = 64 from (hok.loose _ (List.getElem_mem hm)).2.2)
        have HH := Aside0.mk hh
        have HC := Aside0.mk (fun j v => hcells m hm j v)
        have HM2 := Aside0.mk hm
        have HE := Aside0.mk (show s0_0.loose.drop m = s0_0.loose[m] :: s0_0.loose.drop (m + 1) from List.drop_eq_getElem_cons hm)
        have HPE := Aside0.mk (show s0_0.loose[m]? = some s0_0.loose[m] from List.getElem?_eq_getElem hm)
        generalize s0_0.loose[m] = p at hc0 HP HC HE HPE
        clear hx hm hg hge hgb hgl hown hok hgo hh hc hcells
        cases gk with
        | zero => exact absurd HQ.out.1 (by omega)
        | succ k1 =>
        by_cases he : p.1 = a1
        · have d1 : (p.1 == a1) = true := beq_iff_eq.2 he
          have HX := Aside0.mk (clone_64 HP.out (disk_loose_row (off := m * 65) HP.out HH.out HC.out))
          have HRD := Aside0.mk (show Disk.read s0_0 a1 = p.2 by
            have hm := HM2.out
            have he2 : s0_0.loose[m] = p := by have := HPE.out; rw [List.getElem?_eq_getElem hm] at this; exact Option.some.inj this
            unfold Disk.read
            rw [Disk.latest_at hm (he2 ▸ he) (by have := HN.out; rwa [show ((m : Int) + 1).toNat = m + 1 by omega] at this), he2]
            rfl)
          clear he
          go_wp2_with (go_at_call 37; refine HX.out.mono ?_; rintro e w3 ⟨v3, rfl, ho3, hb3⟩; have HO3 := Aside0.mk ho3; have HB3 := Aside0.mk hb3; clear ho3 hb3)
          go_ret2
          exact ⟨_, rfl, by rw [HRD.out]; exact Kd.R_lower HO3.out HK2.out.size, HI2.out.below HB3.out, below_weaken HBB.out HBB.out.size HB3.out, HK2.out.below_trans HB3.out⟩
        · have d1 : (p.1 == a1) = false := beq_eq_false_iff_ne.2 he
          have HN2 := Aside0.mk (show ∀ q ∈ s0_0.loose.drop m, q.1 ≠ a1 by
            rw [HE.out]
            intro q hq
            rcases List.mem_cons.1 hq with rfl | hq
            · exact he
            · have := HN.out
              rw [show ((m : Int) + 1).toNat = m + 1 by omega] at this
              exact this q hq)
          clear he
          go_wp2
          go_roundg k1
          case measure => omega
          case rel => exact ⟨(m : Int) - 1, by rw [show RowKit.wrap64 ((m : Int) - 1) = (m : Int) - 1 by have := HL.out; have := HM2.out; unfold RowKit.wrap64; omega], ⟨rfl⟩, ⟨by have := HQ.out; omega⟩, ⟨by rw [show ((m : Int) - 1 + 1).toNat = m by omega]; exact HN2.out⟩⟩
      · have d0 : decide (x ≥ 0) = false := decide_eq_false (by omega)
        have HRD := Aside0.mk (show Disk.read s0_0 a1 = Disk.sector s0_0.lasts a1 by
          unfold Disk.read
          rw [Disk.latest_none (by have := HN.out; rw [show (x + 1).toNat = 0 by omega] at this; exact this)]
          rfl)
        clear hx
        go_wp2
        go_ret2
        exact ⟨_, rfl, by rw [HRD.out]; exact HO2.out, HI2.out, HBB.out, HK2.out⟩


/-! ### interregnumlaw02_answers: function 12 -/
-- FN rounds=0 making=1
-- IMPORT Derived.Lib.SlBytesConst
def interregnumlaw02_answers.f : Option Bool := some true
theorem C_block {w : World} {k : IntKind} {b n : Nat} {t : TypeId} {fr : Nat × Nat} {xs : List Int} (hb : w.heap[b]? = some (.cells (xs.map (Value.int k)).toArray t fr)) (hn : xs.length = n) (hm : xs.length ≤ 9223372036854775807) :
    Kd.C (Kd.int k) w (some ⟨b, 0, none⟩) n xs := by
  refine Kd.C_of_reads (d := 0) ⟨hn, by omega, fun h => ⟨_, rfl, fun j hj => ?_⟩⟩
  have e : (⟨b, 0, none⟩ : Addr).add j = ⟨b, j, none⟩ := by
    unfold Addr.add
    split
    · rename_i h0; rw [h0]
    · simp
  rw [e]
  simp only [World.cell?, hb]
  have hj' : j < xs.length := by omega
  simp [List.getD_eq_getElem?_getD, hj']
set_option maxHeartbeats 4000000 in
set_option maxRecDepth 100000 in
open Go.Proofs.Ytjaibpphlbddoaa.Opq in
theorem interregnumlaw02_answers.calls (r : Bool) (w : World) (h : interregnumlaw02_answers.f = some r) :
    Calls Try.prog 12 #[] w fun e w' => e = .returned (.bool r) ∧ Below w.heap.size w w' := by
  obtain rfl := Option.some.inj h
  obtain ⟨s1, h1, s2, h2, s3, h3, b, h4, h5, h6, h7⟩ : ∃ s1, sector_New.f 2 = some s1 ∧ ∃ s2, sector_Disk_Write.f s1 1 [97, 98, 99] = some (0, s2) ∧ ∃ s3, sector_Disk_Crash.f s2 0 0 2 = some s3 ∧ ∃ b, sector_Disk_Read.f s3 1 = some (b, 0, s3) ∧ b.length = 64 ∧ b.take 3 = [97, 98, 0] ∧ sector_Disk_Len.f s3 = some (2, s3) :=
    ⟨_, rfl, _, rfl, _, rfl, _, rfl, by kernel_rfl, by kernel_rfl, by kernel_rfl⟩
  have kc := fun (w : World) (C : Array Value) (n c : Nat) => Lib.run_convert_bytes_const (P := Try.prog) w 22 5 C n c Try.underlying22 Try.underlying5
  have H1 := Aside0.mk h1
  have H2 := Aside0.mk h2
  have H3 := Aside0.mk h3
  have H4 := Aside0.mk h4
  have H5 := Aside0.mk h5
  have H6 := Aside0.mk h6
  have H7 := Aside0.mk h7
  clear h h1 h2 h3 h4 h5 h6 h7
  go_enter Try.func12, Try.ntmps12
  go_wp2_with fail
  refine (sector_New.calls 2 s1 w w (Below.refl _ _) H1.out).mono ?_
  rintro e w1 ⟨g, rfl, hi, hb, _⟩
  have HI := Aside0.mk hi
  have HB := Aside0.mk hb
  clear hi hb
  go_wp2_with fail
  have hb0 := heap_alloc_new w1 (.cells #[.int .u8 97, .int .u8 98, .int .u8 99] 5 (3, 4))
  refine (sector_Disk_Write.calls g s1 1 (some ⟨w1.heap.size, 0, none⟩) 3 [97, 98, 99] 0 s2 w _ (HI.out.alloc _) (below_weaken HB.out HB.out.size (below_alloc (Below.refl _ _) _))
    (fun W_ hk => C_block (t := 5) (fr := (3, 4)) (xs := [97, 98, 99]) ((hk.keep w1.heap.size (by simp) (.inr (fun hp => by rw [hb0] at hp; exact absurd hp (show ¬ (5 ∈ ts67) by decide)))).trans hb0) rfl (by simp)) (by simp) H2.out).mono ?_
  rintro e w2 ⟨rfl, hi, hb, _⟩
  clear hb0 HI HB
  have HI := Aside0.mk hi
  have HB := Aside0.mk hb
  clear hi hb
  go_wp2_with fail
  refine (sector_Disk_Crash.calls g s2 0 0 2 s3 w w2 HI.out HB.out H3.out).mono ?_
  rintro e w3 ⟨rfl, hi, hb, _⟩
  clear HI HB
  have HI := Aside0.mk hi
  have HB := Aside0.mk hb
  clear hi hb
  go_wp2_with fail
  refine (sector_Disk_Read.calls g s3 1 b 0 s3 w w3 HI.out HB.out H4.out).mono ?_
  rintro e w4 ⟨v, rfl, ho, hi, hb, _⟩
  obtain ⟨A, c, rfl, hlc, hC⟩ := Kd.R_reads ho
  clear HI HB ho
  have HI := Aside0.mk hi
  have HB := Aside0.mk hb
  have hC3 := Kd.C_take (m := 3) hC (by have := H5.out; omega)
  rw [H6.out] at hC3
  obtain ⟨i0, hi0, _, hsz, _⟩ := info_parts (show (Try.prog.info? 5).map (fun i => (i.zero, i.size, i.bytes)) = some (some (.int .u8 0), 1, 1) by kernel_rfl)
  rw [H5.out] at hlc ⊢
  have hcut := cut_to (P := Try.prog) 22 5 .i64 Try.underlying22 hi0 A 64 c 3 (by omega) (by decide) hlc
  have hcv := Kd.C_string (P := Try.prog) (A := A) (c := c) Try.underlying22 Try.underlying5 Try.underlying9 hC3
  rw [show ([97, 98, 0] : List Int).length = 3 from rfl] at hcv
  have hst : ((strOfNums [97, 98, 0]).toList == ([97, 98, 0] : List UInt8)) = true := by kernel_rfl
  clear hi hb hC hC3
  go_wp2_with fail
  refine (sector_Disk_Len.calls g s3 2 s3 w w4 HI.out HB.out H7.out).mono ?_
  rintro e w5 ⟨rfl, _, hb, _⟩
  have HB5 := Aside0.mk hb
  clear hb
  go_wp2
  go_ret
  exact ⟨rfl, HB5.out⟩


/-! ### interregnumref01_Same: function 17 -/
def interregnumref01_Same.l0 : Nat → List Int → List Int → Int → Option (Bool)
  | 0, _, _, _ => none
  | k + 1, x0, x1, x5 => if x5 < (x0.length : Int) then (if 0 ≤ x5 then (if x5 < (x1.length : Int) then (if (rd x0 x5) = (rd x1 x5) then (interregnumref01_Same.l0 k x0 x1 (wrap64 (x5 + 1))) else (some false)) else (none)) else (none)) else (some true)
def interregnumref01_Same.f (k : Nat) (l0 : List Int) (l1 : List Int) : Option (Bool) := if (l0.length : Int) = (l1.length : Int) then (interregnumref01_Same.l0 k l0 l1 0) else (some false)
theorem interregnumref01_Same.mono_l : ∀ k, (∀ y0 y1 y2, LeO (interregnumref01_Same.l0 k y0 y1 y2) (interregnumref01_Same.l0 (k + 1) y0 y1 y2))
  | 0 => fun _ _ _ r h => by simp [interregnumref01_Same.l0] at h
  | k + 1 => by
    have ih0 := interregnumref01_Same.mono_l k
    · intro y0 y1 y2
      unfold interregnumref01_Same.l0
      repeat' first
      | (with_reducible exact ih0 _ _ _)
      | (with_reducible exact LeO.refl _)
      | (with_reducible exact LeO.none _)
      | (with_reducible refine LeO.ite ?_ ?_)
      | (with_reducible refine LeO.bind ?_ (fun _ => ?_))
      | exact ih0 _ _ _
      | exact LeO.none _
      | refine LeO.ite ?_ ?_
      | refine LeO.bind ?_ (fun _ => ?_)
theorem interregnumref01_Same.mono : ∀ a0 a1 k, LeO (interregnumref01_Same.f k a0 a1) (interregnumref01_Same.f (k + 1) a0 a1) := by
  intro a0 a1 k
  have ih0 := interregnumref01_Same.mono_l k
  unfold interregnumref01_Same.f
  repeat' first
      | (with_reducible exact ih0 _ _ _)
      | (with_reducible exact LeO.refl _)
      | (with_reducible exact LeO.none _)
      | (with_reducible refine LeO.ite ?_ ?_)
      | (with_reducible refine LeO.bind ?_ (fun _ => ?_))
      | exact ih0 _ _ _
      | exact LeO.none _
      | refine LeO.ite ?_ ?_
      | refine LeO.bind ?_ (fun _ => ?_)
set_option maxHeartbeats 8000000 in
set_option maxRecDepth 100000 in
theorem interregnumref01_Same.calls (k : Nat) (A0 : Option Addr) (c0 : Nat) (l0 : List Int) (A1 : Option Addr) (c1 : Nat) (l1 : List Int) (r : Bool) (w : World) (hr0 : Kd.C (Kd.int .u8) w A0 l0.length l0) (hc0 : l0.length ≤ c0) (hr1 : Kd.C (Kd.int .u8) w A1 l1.length l1) (hc1 : l1.length ≤ c1) (h : interregnumref01_Same.f k l0 l1 = some r) :
    Calls Try.prog 17 #[.slice A0 l0.length c0, .slice A1 l1.length c1] w fun e w' => e = .returned (.bool r) ∧ Drawn0 w w' := by
  have HR0 := Aside0.mk hr0
  have HC0 := Aside0.mk hc0
  clear hr0 hc0
  have HR1 := Aside0.mk hr1
  have HC1 := Aside0.mk hc1
  clear hr1 hc1
  have H : (if (l0.length : Int) = (l1.length : Int) then (interregnumref01_Same.l0 k l0 l1 0) else (some false)) = some r := h
  clear h
  by_cases c3 : (l0.length : Int) = (l1.length : Int)
  · rw [if_pos c3] at H
    have c3b0 : ((l0.length : Int) == (l1.length : Int)) = true := beq_iff_eq.mpr c3
    have c3b1 : ((l0.length : Int) != (l1.length : Int)) = false := bne_eq_false_iff_eq.mpr c3
    have c3b2 : (l0.length == l1.length) = true := by first | simpa using c3 | (simp at c3 ⊢; omega)
    clear c3
    have H' := Aside0.mk H
    clear H
    go_enter Try.func17, Try.ntmps17
    go_wp2
    repeat (go_quiet (fail); try go_wp2)
    go_loopg [5] k (fun kq v5 w' => ∃ (x5_1 : Int), v5 = .int .i64 x5_1 ∧ Aside0 (interregnumref01_Same.l0 kq l0 l1 x5_1 = some r) ∧ Aside0 (kq ≤ k) ∧ Drawn0 w w')
    case atStart => exact ⟨(0), (by first | rfl | (simp; done) | (simp [*]; done)), H', ⟨Nat.le_refl _⟩, by repeat (first | exact Drawn0.refl _ | apply Drawn0.step)⟩
    case round =>
      clear H'
      try clear c1
      try clear p2
      try clear c3
      try clear c3b0
      try clear c3b1
      try clear c3b2
      obtain ⟨x5_1, rfl, HA, HK1, ⟨m1, rfl⟩⟩ := hrel
      cases gk with
      | zero => exact absurd HA.out (by simp [interregnumref01_Same.l0])
      | succ k1 =>
        have H := HA.out
        clear HA
        simp only [interregnumref01_Same.l0] at H
        by_cases c4 : x5_1 < (l0.length : Int)
        · rw [if_pos c4] at H
          have c4b0 : decide (x5_1 < (l0.length : Int)) = true := decide_eq_true c4
          clear c4
          by_cases c5 : 0 ≤ x5_1
          · rw [if_pos c5] at H
            have c5b0 : decide (0 ≤ x5_1) = true := decide_eq_true c5
            clear c5
            by_cases c6 : x5_1 < (l1.length : Int)
            · rw [if_pos c6] at H
              have c6b0 : decide (x5_1 < (l1.length : Int)) = true := decide_eq_true c6
              clear c6
              by_cases c7 : (rd l0 x5_1) = (rd l1 x5_1)
              · rw [if_pos c7] at H
                have c7b0 : ((rd l0 x5_1) == (rd l1 x5_1)) = true := beq_iff_eq.mpr c7
                have c7b1 : ((rd l0 x5_1) != (rd l1 x5_1)) = false := bne_eq_false_iff_eq.mpr c7
                clear c7
                have H' := Aside0.mk H
                clear H
                have p101 : 0 ≤ (x5_1 : Int) := of_decide_eq_true (by first | (with_reducible assumption) | assumption)
                have q101 : x5_1 < (l0.length : Int) := of_decide_eq_true (by first | (with_reducible assumption) | assumption)
                obtain ⟨ad101, e101, hx101_0⟩ := Kd.at_int HR0.out x5_1 p101 q101
                cases e101
                replace p101 := eq_true p101
                replace q101 := eq_true q101
                have p102 : 0 ≤ (x5_1 : Int) := of_decide_eq_true (by first | (with_reducible assumption) | assumption)
                have q102 : x5_1 < (l1.length : Int) := of_decide_eq_true (by first | (with_reducible assumption) | assumption)
                obtain ⟨ad102, e102, hx102_0⟩ := Kd.at_int HR1.out x5_1 p102 q102
                cases e102
                replace p102 := eq_true p102
                replace q102 := eq_true q102
                go_wp2
                repeat (go_quiet (fail); try go_wp2)
                go_roundg k1
                case measure => have := HK1.out; omega
                case rel => exact ⟨(wrap64 (x5_1 + 1)), (by first | rfl | (simp; done) | (simp [*]; done)), H', ⟨by have := HK1.out; omega⟩, by repeat (first | exact Drawn0.refl _ | apply Drawn0.step)⟩
              · rw [if_neg c7] at H
                have c7b0 : ((rd l0 x5_1) == (rd l1 x5_1)) = false := beq_eq_false_iff_ne.mpr c7
                have c7b1 : ((rd l0 x5_1) != (rd l1 x5_1)) = true := bne_iff_ne.mpr c7
                obtain rfl := Option.some.inj H
                have p101 : 0 ≤ (x5_1 : Int) := of_decide_eq_true (by first | (with_reducible assumption) | assumption)
                have q101 : x5_1 < (l0.length : Int) := of_decide_eq_true (by first | (with_reducible assumption) | assumption)
                obtain ⟨ad101, e101, hx101_0⟩ := Kd.at_int HR0.out x5_1 p101 q101
                cases e101
                replace p101 := eq_true p101
                replace q101 := eq_true q101
                have p102 : 0 ≤ (x5_1 : Int) := of_decide_eq_true (by first | (with_reducible assumption) | assumption)
                have q102 : x5_1 < (l1.length : Int) := of_decide_eq_true (by first | (with_reducible assumption) | assumption)
                obtain ⟨ad102, e102, hx102_0⟩ := Kd.at_int HR1.out x5_1 p102 q102
                cases e102
                replace p102 := eq_true p102
                replace q102 := eq_true q102
                go_wp2
                repeat (go_quiet (fail); try go_wp2)
                go_ret
                exact ⟨by first | rfl | (simp; done) | (simp [*]; done), by repeat (first | exact Drawn0.refl _ | apply Drawn0.step)⟩
            · rw [if_neg c6] at H
              exact absurd H (by simp)
          · rw [if_neg c5] at H
            exact absurd H (by simp)
        · rw [if_neg c4] at H
          have c4b0 : decide (x5_1 < (l0.length : Int)) = false := decide_eq_false c4
          clear c4
          obtain rfl := Option.some.inj H
          go_wp2
          repeat (go_quiet (fail); try go_wp2)
          go_ret
          exact ⟨by first | rfl | (simp; done) | (simp [*]; done), by repeat (first | exact Drawn0.refl _ | apply Drawn0.step)⟩
  · rw [if_neg c3] at H
    have c3b0 : ((l0.length : Int) == (l1.length : Int)) = false := beq_eq_false_iff_ne.mpr c3
    have c3b1 : ((l0.length : Int) != (l1.length : Int)) = true := bne_iff_ne.mpr c3
    have c3b2 : (l0.length == l1.length) = false := by first | simpa using c3 | (simp at c3 ⊢; omega)
    obtain rfl := Option.some.inj H
    go_enter Try.func17, Try.ntmps17
    go_wp2
    repeat (go_quiet (fail); try go_wp2)
    go_ret
    exact ⟨by first | rfl | (simp; done) | (simp [*]; done), by repeat (first | exact Drawn0.refl _ | apply Drawn0.step)⟩

/-! ### interregnumref01_Fill: function 18 -/
-- FN rounds=0 making=1
-- IMPORT Derived.Laws.CopyOwn
-- IMPORT Derived.Laws.MakeOwn
def interregnumref01_Fill.f (l0 : List Int) : Option (List Int) := some (l0.take 64 ++ List.replicate (64 - l0.length) 0)
theorem fill_cells (n : Nat) : madeCells #[Value.int .u8 0] n = ((List.replicate n (0 : Int)).map (Value.int .u8)).toArray := by
  apply Array.ext
  · simp [madeCells]
  · intro i h1 h2
    simp [madeCells, Nat.mod_one]
theorem fill_copy {w : World} {A : Option Addr} {n : Nat} {l : List Int} (h : Kd.C (Kd.int .u8) w A n l) (hp : 0 < (l.take 64).length) : ∃ ad, A = some ad ∧ ∀ (j : Nat) v, ((l.take 64).map (Value.int .u8))[j]? = some v → w.cell? (ad.add j) = some v := by
  obtain ⟨hl, _, h⟩ := Kd.reads_of_C (d := (0 : Int)) h
  obtain ⟨ad, he, hc⟩ := h (by rw [List.length_take] at hp; omega)
  refine ⟨ad, he, fun j v hv => ?_⟩
  rw [List.getElem?_map, List.getElem?_take] at hv
  split at hv
  · cases hj : l[j]? with
    | none => rw [hj] at hv; cases hv
    | some x =>
      rw [hj] at hv
      injection hv with hv
      rw [← hv]
      have hjl : j < l.length := (List.getElem?_eq_some_iff.1 hj).1
      have := hc j (by omega)
      rw [this, List.getD_eq_getElem?_getD, hj]
      rfl
  · cases hv
theorem fill_splice (l : List Int) : splice ((List.replicate 64 (0 : Int)).map (Value.int .u8)) 0 ((l.take 64).map (Value.int .u8)) = (l.take 64 ++ List.replicate (64 - l.length) 0).map (Value.int .u8) := by
  unfold splice
  rw [List.take_zero, List.nil_append, Nat.zero_add, List.map_append, List.length_map, List.length_take, List.map_replicate, List.drop_replicate, List.map_replicate, show 64 - min 64 l.length = 64 - l.length by omega]
set_option maxHeartbeats 8000000 in
set_option maxRecDepth 100000 in
theorem interregnumref01_Fill.calls (A0 : Option Addr) (c0 : Nat) (l0 : List Int) (r : List Int) (w : World) (hr0 : Kd.C (Kd.int .u8) w A0 l0.length l0) (hc0 : l0.length ≤ c0) (h : interregnumref01_Fill.f l0 = some r) :
    Calls Try.prog 18 #[.slice A0 l0.length c0] w fun e w' => ∃ v0_ : Value, e = .returned (v0_) ∧ Kd.R (Kd.int .u8) 5 w' w.heap.size (fun _ => True) v0_ r ∧ Below w.heap.size w w' := by
  obtain rfl := Option.some.inj h
  have HR := Aside0.mk hr0
  obtain ⟨Z, hZ, hmk⟩ : ∃ Z : List Value, Z = (List.replicate 64 (0 : Int)).map (Value.int .u8) ∧ (Instr.makeSlice 22 (.int .i64 64) (.int .i64 64)).run Try.prog w = .ok (.slice (some ⟨w.heap.size, 0, none⟩) 64 64) (w.alloc (.cells Z.toArray 5)) := by
    obtain ⟨i, hi, hz, hs, hb⟩ := info_parts (show (Try.prog.info? 5).map (fun i => (i.zero, i.size, i.bytes)) = some (some (.int .u8 0), 1, 1) by kernel_rfl)
    have hm := run_make (P := Try.prog) w 22 5 i (.int .u8 0) Try.underlying22 hi hz .i64 .i64 64 64 (by decide) (by decide) (by rw [hb]; decide) (by decide)
    refine ⟨_, rfl, ?_⟩
    rw [hm, hs]
    exact congrArg (fun c => Result.ok (Value.slice (some ⟨w.heap.size, 0, none⟩) 64 64) (w.alloc (.cells c 5))) (fill_cells 64)
  have HZ := Aside0.mk hZ
  have HZL := Aside0.mk (show Z.length = 64 by rw [hZ]; simp)
  obtain ⟨cs, hcs⟩ : ∃ cs, cs = (l0.take 64).map (Value.int .u8) := ⟨_, rfl⟩
  have HCS := Aside0.mk hcs
  clear h hr0 hZ hcs
  go_enter Try.func18, Try.ntmps18
  go_wp2_with (((with_reducible refine gate_builtin (b := .copy) (xs := #[.tmp 5, .tmp 6]) rfl ?_); refine wpList_copy_splice rfl (.tmp 5) (.tmp 6) 22 22 rfl 5 Try.underlying22 (by kernel_rfl) (some ⟨w.heap.size, 0, none⟩) A0 64 64 l0.length c0 rfl rfl w.heap.size 0 Z 5 (heap_alloc_new w _) cs (by rw [HCS.out, List.length_map, List.length_take]; show min 64 _ = min _ 64; omega) (fun hp => ⟨rfl, HCS.out ▸ fill_copy (Kd.C_alloc HR.out _) (by have := HCS.out; subst this; simpa using hp)⟩) (by rw [HCS.out, List.length_map, List.length_take, HZL.out]; omega) (by rw [HCS.out]; intro v hv; obtain ⟨x, _, rfl⟩ := List.mem_map.1 hv; rfl) w.heap.size w (below_alloc (Below.refl _ _) _) (Nat.le_refl _) ?_; intro w7 hx7 hb7; have HX7 := Aside0.mk hx7; have HB7 := Aside0.mk hb7; clear hx7 hb7))
  go_ret
  refine ⟨.slice (some ⟨w.heap.size, 0, none⟩) 64 64, rfl, ?_, HB7.out⟩
  obtain ⟨X, hX⟩ : ∃ X : List Int, X = l0.take 64 ++ List.replicate (64 - l0.length) 0 := ⟨_, rfl⟩
  have hl : X.length = 64 := by rw [hX, List.length_append, List.length_take, List.length_replicate]; omega
  have hh : w7.heap[w.heap.size]? = some (.cells (X.map (Value.int .u8)).toArray 5 (0, 0)) := by
    have := HX7.out
    rw [HCS.out, HZ.out, fill_splice] at this
    rw [hX]
    exact this
  rw [← hX]
  refine Kd.R_of_own (xs := X) ?_ (fun _ _ => trivial)
  rw [hl]
  refine ⟨by simp [encs, hl], .inr ⟨w.heap.size, 64, _, rfl, Nat.le_refl _, hh, Nat.le_refl _, by unfold maxLen; omega, by simp [hl], ?_⟩⟩
  rw [List.take_of_length_le (by simp [hl])]
  rfl


/-! ### interregnumlaw02_SectorLands: function 3 -/
-- FN rounds=0 making=1
-- IMPORT Derived.Test.YtjaibpphlbddoaaLands
-- IMPORT Derived.Test.YtjaibpphlbddoaaMid
def interregnumlaw02_SectorLands.f (l0 : List Int) (a1 : Int) : Option Bool := if (∀ x ∈ l0, 0 ≤ x ∧ x < 256) ∧ 0 ≤ a1 ∧ a1 < 18446744073709551616 then some true else none
theorem lands_same_l0 (l : List Int) (hl : l.length < 4611686018427387904) (d : Nat) : ∀ (k i : Nat), i + d = l.length → interregnumref01_Same.l0 (k + d + 1) l l (i : Int) = some true := by
  induction d with
  | zero =>
    intro k i hi
    conv => lhs; unfold interregnumref01_Same.l0
    rw [if_neg (by omega)]
  | succ d ih =>
    intro k i hi
    rw [show k + (d + 1) + 1 = (k + d + 1) + 1 by omega]
    conv => lhs; unfold interregnumref01_Same.l0
    rw [if_pos (by omega), if_pos (by omega), if_pos (by omega), if_pos rfl, show wrap64 ((i : Int) + 1) = ((i + 1 : Nat) : Int) by unfold wrap64; omega]
    exact ih k (i + 1) (by omega)
theorem lands_same (l : List Int) (hl : l.length < 4611686018427387904) : interregnumref01_Same.f (l.length + 1) l l = some true := by
  unfold interregnumref01_Same.f
  rw [if_pos rfl]
  have := lands_same_l0 l hl l.length 0 0 (by omega)
  rwa [show 0 + l.length + 1 = l.length + 1 by omega] at this
set_option maxHeartbeats 8000000 in
set_option maxRecDepth 100000 in
open Go.Proofs.Ytjaibpphlbddoaa.Opq in
theorem interregnumlaw02_SectorLands.calls (A0 : Option Addr) (c0 : Nat) (l0 : List Int) (a1 : Int) (r : Bool) (w : World) (hr0 : Kd.C (Kd.int .u8) w A0 l0.length l0) (hc0 : l0.length ≤ c0) (h : interregnumlaw02_SectorLands.f l0 a1 = some r) :
    Calls Try.prog 3 #[.slice A0 l0.length c0, .int .u64 a1] w fun e w' => e = .returned (.bool r) ∧ Below w.heap.size w w' := by
  unfold interregnumlaw02_SectorLands.f at h
  split at h
  case isFalse => cases h
  case isTrue hb =>
  obtain ⟨hby, hk⟩ := hb
  obtain rfl := Option.some.inj h
  have HA := Aside0.mk (show ∀ W, Calls Try.prog 12 #[] W fun e w' => e = .returned (.bool true) ∧ Below W.heap.size W w' from fun W => interregnumlaw02_answers.calls true W rfl)
  by_cases hl : l0.length > 70
  · have d0 : decide ((l0.length : Int) > 70) = true := decide_eq_true (by omega)
    have d1 : decide (l0.length > 70) = true := decide_eq_true hl
    clear hr0 hc0 h hby hk hl
    go_enter Try.func3, Try.ntmps3
    go_wp2_with (go_at_call 12; refine (HA.out _).mono ?_; rintro e w1 ⟨rfl, hb⟩; have HB := Aside0.mk hb; clear hb)
    go_ret
    exact ⟨rfl, HB.out⟩
  have d0 : decide ((l0.length : Int) > 70) = false := decide_eq_false (by omega)
  have d1 : decide (l0.length > 70) = false := decide_eq_false hl
  have HL := Aside0.mk (show l0.length ≤ 70 by omega)
  have HR := Aside0.mk hr0
  have HBY := Aside0.mk hby
  have HK := Aside0.mk hk
  have HN := Aside0.mk (sector_New.calls 8 (Disk.new 8) w w (Below.refl _ _) rfl)
  clear hr0 hc0 h hby hk hl
  go_enter Try.func3, Try.ntmps3
  go_wp2_with fail
  refine HN.out.mono ?_
  rintro e w1 ⟨g, rfl, hi, hb, _⟩
  have HI1 := Aside0.mk (show IsS67 w w1 g (Disk.Up 8 (Disk.new 8).lasts (Disk.looseK l0 0)) from hi)
  have HB1 := Aside0.mk hb
  clear hi hb HN
  have HW1 := Aside0.mk (show (w1.alloc (.cells #[.int .i64 0, .int .i64 0, .int .i64 0, .int .i64 0, .int .i64 0, .int .i64 0, .int .i64 0, .int .i64 0] 27)).heap[w1.heap.size]? = some (.cells ((Disk.wantK l0 a1 0).map (Value.int .i64)).toArray 27 (0, 0)) from heap_alloc_new w1 _)
  have HI2 := Aside0.mk (HI1.out.alloc (.cells #[.int .i64 0, .int .i64 0, .int .i64 0, .int .i64 0, .int .i64 0, .int .i64 0, .int .i64 0, .int .i64 0] 27))
  have HB2 := Aside0.mk (below_alloc HB1.out (.cells #[.int .i64 0, .int .i64 0, .int .i64 0, .int .i64 0, .int .i64 0, .int .i64 0, .int .i64 0, .int .i64 0] 27))
  have HGW := Aside0.mk (show w.heap.size ≤ w1.heap.size from HB1.out.size)
  clear HI1 HB1
  go_wp2
  go_loopg [7] (l0.length + 1) (fun kq v7 wr => ∃ i : Nat, v7 = .int .i64 i ∧ Aside0 (i + kq = l0.length + 1 ∧ i ≤ l0.length) ∧ Aside0 (IsS67 w wr g (Disk.Up 8 (Disk.new 8).lasts (Disk.looseK l0 i))) ∧ Aside0 (Below w.heap.size w wr) ∧ Aside0 (wr.heap[w1.heap.size]? = some (.cells ((Disk.wantK l0 a1 i).map (Value.int .i64)).toArray 27 (0, 0))))
  case atStart => exact ⟨0, rfl, ⟨by omega, by omega⟩, HI2, HB2, HW1⟩
  case round =>
    obtain ⟨i, rfl, HN, HI, HB, HW⟩ := hrel
    clear HI2 HB2 HW1
    cases gk with
    | zero => exact absurd HN.out.1 (by have := HN.out.2; omega)
    | succ k1 =>
    by_cases hlt : i < l0.length
    · have dl : decide (i < l0.length) = true := decide_eq_true hlt
      have HLT := Aside0.mk hlt
      obtain ⟨_, _, hcl⟩ := Kd.reads_of_C (d := (0 : Int)) (Kd.C_below HR.out HB.out)
      obtain ⟨ad, e0, hcell⟩ := hcl (by omega)
      subst e0
      have hc := hcell i hlt
      have hx : 0 ≤ l0.getD i 0 ∧ l0.getD i 0 < 256 := by
        rw [List.getD_eq_getElem?_getD, List.getElem?_eq_getElem hlt]
        exact HBY.out _ (List.getElem_mem hlt)
      obtain ⟨hx0, hx1⟩ := hx
      have HX := Aside0.mk (And.intro hx0 hx1)
      have HWR := Aside0.mk (Disk.write_up (Disk.looseK_fit l0 i) (a := l0.getD i 0 % 8) (b := [((i : Int) + 1) % 256]) (by omega) (by omega) (by simp))
      have HCELL := Aside0.mk hc
      have HWF := Aside0.mk (show sector_Disk_Write.f (Disk.Up 8 (Disk.new 8).lasts (Disk.looseK l0 i)) (l0.getD i 0 % 8) [(i : Int) + 1] = some (0, Disk.Up 8 (Disk.new 8).lasts (Disk.looseK l0 (i + 1))) by
        unfold sector_Disk_Write.f
        have h70 := HL.out
        rw [if_pos (show (Disk.Up 8 (Disk.new 8).lasts (Disk.looseK l0 i)).loose.length < 1000000 from (by show (Disk.looseK l0 i).length < _; rw [Disk.looseK_length]; omega))]
        have h1 := HWR.out
        rw [show ((i : Int) + 1) % 256 = (i : Int) + 1 by omega] at h1
        rw [h1]
        show _ = some (0, Disk.Up 8 (Disk.new 8).lasts (Disk.looseK l0 i ++ [(l0.getD i 0 % 8, Disk.fill [((i : Int) + 1) % 256])]))
        rw [show ((i : Int) + 1) % 256 = (i : Int) + 1 by omega])
      have hle : i ≤ 70 := by have := HL.out; omega
      have HLE := Aside0.mk hle
      clear hcell hlt hcl
      have q0 : (0 : Int) ≤ (i : Int) := by omega
      have q1 : (i : Int) < (l0.length : Int) := by have := HLT.out; omega
      have q2 : (i : Int) + 1 ≤ 71 := by omega
      generalize hgx : l0.getD i 0 = x at *
      have HGX := Aside0.mk hgx
      clear hgx
      go_wp2_with fail
      refine (sector_Disk_Write.calls g _ (x % 8) (some ⟨wr.heap.size, 0, none⟩) 1 [(i : Int) + 1] 0 _ w _ (HI.out.alloc (.cells #[.int .u8 ((i : Int) + 1)] 5)) (below_alloc HB.out _) (fun W hW => ?_) (Nat.le_refl _) HWF.out).mono ?_
      · have hblk := hW.blk (heap_alloc_new wr (.cells #[.int .u8 ((i : Int) + 1)] 5)) (by decide)
        exact Kd.C_of_reads (d := 0) ⟨rfl, by show 1 ≤ _; omega, fun _ => ⟨_, rfl, fun j hj => by
          obtain rfl : j = 0 := by simpa using hj
          exact (blk_cell hblk 0).trans rfl⟩⟩
      rintro e w2 ⟨rfl, hi2, hb2, hk2⟩
      have HI2 := Aside0.mk hi2
      have HB2 := Aside0.mk hb2
      have hw2 := hk2.blk (((below_alloc (Below.refl _ wr) (.cells #[.int .u8 ((i : Int) + 1)] 5)).block _ (blk_lt HW.out)).trans HW.out) (by decide)
      have HW2 := Aside0.mk hw2
      have hcz : ∀ j : Nat, j < 8 → w2.cell? ⟨w1.heap.size, j, none⟩ = some (.int .i64 ((Disk.wantK l0 a1 i).getD j 0)) := fun j hj => (blk_cell hw2 j).trans (by
        rw [List.getElem?_toArray, List.getElem?_map, List.getElem?_eq_getElem (by rw [Disk.wantK_length]; exact hj), List.getD_eq_getElem?_getD, List.getElem?_eq_getElem (by rw [Disk.wantK_length]; exact hj)]
        rfl)
      have hcx := hcz (x % 8).toNat (by omega)
      have hfx := blk_frozen hw2
      have HCX := Aside0.mk hcx
      clear hi2 hb2 hk2 hw2 hcz
      have HKB := Aside0.mk (show ((a1 / 2 ^ (i % 64)).tmod 2 == 1) = Disk.keepB a1 i by
        unfold Disk.keepB
        rw [Int.tmod_eq_emod_of_nonneg (Int.ediv_nonneg HK.out.1 (Int.le_of_lt (Int.pow_pos (by omega))))])
      cases hkb : Disk.keepB a1 i with
      | false =>
        have dk := HKB.out
        rw [hkb] at dk
        have HW3 := Aside0.mk (show Disk.wantK l0 a1 (i + 1) = Disk.wantK l0 a1 i by
          show (if Disk.keepB a1 i = true then _ else _) = _
          rw [hkb]
          rfl)
        clear hkb HKB
        go_wp2
        go_roundg k1
        case measure => omega
        case rel => exact ⟨i + 1, by go_num, ⟨by have := HN.out.1; omega, by have := HLT.out; omega⟩, HI2, HB2, ⟨by rw [HW3.out]; exact HW2.out⟩⟩
      | true =>
        have dk := HKB.out
        rw [hkb] at dk
        have HW3 := Aside0.mk (show Disk.wantK l0 a1 (i + 1) = (Disk.wantK l0 a1 i).set (x % 8).toNat ((i : Int) + 1) by
          show (if Disk.keepB a1 i = true then (Disk.wantK l0 a1 i).set (l0.getD i 0 % 8).toNat ((i : Int) + 1) else _) = _
          rw [hkb, if_pos rfl, HGX.out])
        clear hkb HKB
        have p8 : x % 8 < 8 := by omega
        have p0 : 0 ≤ x % 8 := by omega
        go_wp2
        go_roundg k1
        case measure => omega
        case rel => exact ⟨i + 1, by go_num, ⟨by have := HN.out.1; omega, by have := HLT.out; omega⟩, ⟨HI2.out.far (NP.blk HW2.out (by decide)) _⟩, ⟨Below.setCell HB2.out HGW.out _⟩, ⟨(blk_set HW2.out (x % 8).toNat (.int .i64 ((i : Int) + 1))).trans (by rw [HW3.out, List.setIfInBounds_toArray, List.map_set])⟩⟩
    · have dl : decide (i < l0.length) = false := decide_eq_false hlt
      obtain rfl : i = l0.length := by have := HN.out.2; omega
      have h70 := HL.out
      have HCF := Aside0.mk (show sector_Disk_Crash.f (Disk.Up 8 (Disk.new 8).lasts (Disk.looseK l0 l0.length)) a1 (-1) 0 = some (Disk.Up 8 (Disk.crashed a1 (-1) 0 0 (Disk.looseK l0 l0.length) (Disk.new 8).lasts) []) by
        unfold sector_Disk_Crash.f
        rw [if_pos (show (Disk.Up 8 (Disk.new 8).lasts (Disk.looseK l0 l0.length)).loose.length < 1000000 from (by show (Disk.looseK l0 l0.length).length < _; rw [Disk.looseK_length]; omega))]
        rfl)
      have HLD := Aside0.mk (fun k h0 h8 => Disk.lands l0 a1 0 HK.out k h0 h8 l0.length)
      have HRG := Aside0.mk (Disk.wantK_range l0 a1 l0.length)
      have HWL := Aside0.mk (Disk.wantK_length l0 a1 l0.length)
      have HFIT := Aside0.mk (show (Disk.crashed a1 (-1) 0 0 (Disk.looseK l0 l0.length) (Disk.new 8).lasts).length = 512 from Disk.crashedK_length l0 a1 0 l0.length)
      clear h70
      generalize Disk.crashed a1 (-1) 0 0 (Disk.looseK l0 l0.length) (Disk.new 8).lasts = cl at HCF HLD HFIT
      generalize Disk.wantK l0 a1 l0.length = wt at HW HLD HRG HWL
      go_wp2_with fail
      refine (sector_Disk_Crash.calls g _ a1 (-1) 0 _ w wr HI.out HB.out HCF.out).mono ?_
      rintro e w2 ⟨rfl, hi2, hb2, hk2⟩
      have HI2 := Aside0.mk hi2
      have HB2 := Aside0.mk hb2
      have HW2 := Aside0.mk (hk2.blk HW.out (by decide))
      clear hi2 hb2 hk2 HI HB HW HCF
      go_wp2
      go_loopg [9] 9 (fun kq v9 wr => ∃ j : Nat, v9 = .int .i64 j ∧ Aside0 (j + kq = 9 ∧ j ≤ 8) ∧ Aside0 (IsS67 w wr g (Disk.Up 8 cl [])) ∧ Aside0 (Below w.heap.size w wr) ∧ Aside0 (wr.heap[w1.heap.size]? = some (.cells (wt.map (Value.int .i64)).toArray 27 (0, 0))))
      case atStart => exact ⟨0, rfl, ⟨by omega, by omega⟩, HI2, HB2, HW2⟩
      case round =>
        clear HI2 HB2 HW2
        obtain ⟨j, rfl, HN, HI, HB, HW⟩ := hrel
        cases gk with
        | zero => exact absurd HN.out.1 (by have := HN.out.2; omega)
        | succ k1 =>
        by_cases hlt : j < 8
        · have dl : decide (j < 8) = true := decide_eq_true hlt
          have dl2 : decide ((j : Int) < 8) = true := decide_eq_true (by omega)
          have HLT := Aside0.mk hlt
          have q0 : (0 : Int) ≤ (j : Int) := by omega
          have q1 : (j : Int) < 8 := by omega
          have q2 : (j : Int) + 1 ≤ 8 := by omega
          have HRF := Aside0.mk (show sector_Disk_Read.f (Disk.Up 8 cl []) (j : Int) = some (Disk.fill [wt.getD j 0], 0, Disk.Up 8 cl []) by
            unfold sector_Disk_Read.f
            rw [if_pos (show (Disk.Up 8 cl []).loose.length < 1000000 by show 0 < 1000000; decide), if_pos (show Disk.there (Disk.Up 8 cl []) (j : Int) = true by
              unfold Disk.there
              have := HFIT.out
              simp only [Disk.Up, Disk.len, this]
              simp
              omega)]
            have h1 := HLD.out (j : Int) q0 q1
            have h2 : 0 ≤ wt.getD j 0 ∧ wt.getD j 0 ≤ l0.length := by
              rw [List.getD_eq_getElem?_getD, List.getElem?_eq_getElem (by rw [HWL.out]; exact hlt)]
              exact HRG.out _ (List.getElem_mem _)
            have := HL.out
            rw [Int.toNat_natCast, Int.emod_eq_of_lt h2.1 (by omega)] at h1
            show some (Disk.sector cl j, _, _) = _
            rw [h1])
          have HX := Aside0.mk (show 0 ≤ wt.getD j 0 ∧ wt.getD j 0 ≤ 70 by
            have h2 : 0 ≤ wt.getD j 0 ∧ wt.getD j 0 ≤ l0.length := by
              rw [List.getD_eq_getElem?_getD, List.getElem?_eq_getElem (by rw [HWL.out]; exact hlt)]
              exact HRG.out _ (List.getElem_mem _)
            have := HL.out
            omega)
          have HWJ := Aside0.mk (show (wt.map (Value.int .i64)).toArray[j]? = some (.int .i64 (wt.getD j 0)) by
            rw [List.getElem?_toArray, List.getElem?_map, List.getD_eq_getElem?_getD, List.getElem?_eq_getElem (by rw [HWL.out]; exact hlt)]
            rfl)
          clear hlt
          generalize wt.getD j 0 = x at HRF HX HWJ
          go_wp2_with fail
          refine (sector_Disk_Read.calls g _ (j : Int) _ 0 _ w wr HI.out HB.out HRF.out).mono ?_
          rintro e w2 ⟨b, rfl, hr2, hi2, hb2, hk2⟩
          have HI2 := Aside0.mk hi2
          have HB2 := Aside0.mk hb2
          have hw2 := hk2.blk HW.out (by decide)
          have HW2 := Aside0.mk hw2
          have HR2 := Aside0.mk hr2
          have hcx := (blk_cell hw2 j).trans HWJ.out
          have hx0 := HX.out.1
          have hx1 := HX.out.2
          clear hi2 hb2 hk2 hw2 hr2 HI HB HW HWJ
          go_wp2_with fail
          have hcl : Kd.C (Kd.int .u8) (w2.alloc (.cells #[.int .u8 x] 5)) (some ⟨w2.heap.size, 0, none⟩) ([x] : List Int).length [x] := Kd.C_of_reads (d := (0 : Int)) ⟨rfl, by show 1 ≤ _; omega, fun _ => ⟨_, rfl, fun i hi => by
            obtain rfl : i = 0 := by simpa using hi
            exact (blk_cell (heap_alloc_new w2 (.cells #[.int .u8 x] 5)) 0).trans rfl⟩⟩
          refine (interregnumref01_Fill.calls _ 1 [x] (Disk.fill [x]) _ hcl (Nat.le_refl _) rfl).mono ?_
          rintro e w3 ⟨v, rfl, hr3, hb3⟩
          have hb23 := below_weaken (below_alloc (Below.refl w2.heap.size w2) (.cells #[.int .u8 x] 5)) (below_alloc (Below.refl w2.heap.size w2) (.cells #[.int .u8 x] 5)).size hb3
          have HI3 := Aside0.mk (HI2.out.below hb23)
          have HB3 := Aside0.mk (below_weaken HB2.out HB2.out.size hb23)
          have HW3 := Aside0.mk ((hb23.block _ (blk_lt HW2.out)).trans HW2.out)
          obtain ⟨Ab, cb, rfl, hcb, hCb⟩ := Kd.R_reads HR2.out
          obtain ⟨Av, cv, rfl, hcv, hCv⟩ := Kd.R_reads hr3
          have HCb := Aside0.mk (Kd.C_below hCb hb23)
          have HCv := Aside0.mk hCv
          clear hcl hr3 hb3 hb23 hCb hCv HI2 HB2 HW2 HR2 hcx
          go_wp2_with fail
          refine (interregnumref01_Same.calls _ _ _ (Disk.fill [x]) _ _ (Disk.fill [x]) true _ HCb.out hcb HCv.out hcv (lands_same (Disk.fill [x]) (by rw [Disk.fill_length (by simp)]; decide))).mono ?_
          rintro e w4 ⟨rfl, hd4⟩
          have HI4 := Aside0.mk (HI3.out.below hd4.below)
          have HB4 := Aside0.mk (below_weaken HB3.out HB3.out.size hd4.below)
          have HW4 := Aside0.mk ((hd4.below.block _ (blk_lt HW3.out)).trans HW3.out)
          clear HI3 HB3 HW3 hd4 HCb HCv hcb hcv
          go_wp2
          go_roundg k1
          case measure => omega
          case rel => exact ⟨j + 1, by go_num, ⟨by have := HN.out.1; omega, by have := HLT.out; omega⟩, HI4, HB4, HW4⟩
        · have dl : decide (j < 8) = false := decide_eq_false hlt
          have dl2 : decide ((j : Int) < 8) = false := decide_eq_false (by omega)
          clear hlt
          go_wp2_with (go_at_call 12; refine (HA.out _).mono ?_; rintro e w3 ⟨rfl, hb⟩; have HB3 := Aside0.mk hb; clear hb)
          go_ret
          exact ⟨rfl, below_weaken HB.out HB.out.size HB3.out⟩


end Go.Proofs.Ytjaibpphlbddoaa.PSectorLands
