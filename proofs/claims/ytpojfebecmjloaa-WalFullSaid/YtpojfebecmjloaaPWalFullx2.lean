-- Lean text by a program of this repo (wip/tools/printx.py), out of Lean's own print of the translation
import Derived.Laws.Externs
import Derived.Lib.BytesEntry
import Derived.Lib.Bytealg
import Derived.Deep.MidRow
import Derived.Deep.RegionHeld3
import Derived.Test.YtpojfebecmjloaaMid
import Derived.Test.YtpojfebecmjloaaPWalFullx0
import Derived.Test.YtpojfebecmjloaaPWalFullx1
namespace Go.Proofs.Ytpojfebecmjloaa.PWalFull
open Go.RowKit Go.Proofs.YtpojfebecmjloaaW.PrintWords Go.Proofs.YtpojfebecmjloaaW.PrintLast Go.Proofs.YtpojfebecmjloaaW.PrintMore
attribute [local go_sem] max2_int min2_int max_two min_two max_three min_three max_four min_four   -- for this text's walks alone
set_option linter.unusedVariables false
set_option linter.unusedSimpArgs false

/-! ### sector_Disk_Read: function 16 -/
-- FN rounds=0 making=1
def sector_Disk_Read.f (s : Disk.DiskM) (a1 : Int) : Option (List Int × Int × Disk.DiskM) := if s.loose.length < 1000000 then (if Disk.there s a1 = true then some (Disk.read s a1, 0, s) else some ([], 1, s)) else none
theorem disk_loose_row {w : World} {go off : Nat} {cur : Array Value} {t : TypeId} {fr : Nat × Nat} {p : Int × List Int} (hp : p.2.length = 64) (hh : w.heap[go]? = some (.cells cur t fr))
    (hc : ∀ j v, (Value.int .i64 p.1 :: Disk.bytes p.2)[j]? = some v → cur.toList[off + j]? = some v) : Kd.C (Kd.int .u8) w (some ⟨go, off + 1, none⟩) 64 p.2 := by
  refine Kd.C_of_reads (d := 0) ⟨hp, by omega, fun _ => ⟨_, rfl, fun j hj => ?_⟩⟩
  have h1 := hc (j + 1) (.int .u8 (p.2.getD j 0)) (by rw [List.getElem?_cons_succ]; exact Disk.bytes_get (by omega))
  have he : (⟨go, off + 1, none⟩ : Addr).add j = ⟨go, off + (j + 1), none⟩ := by unfold Addr.add; split <;> simp_all; omega
  rw [he]
  simp only [World.cell?, hh]
  simpa using h1
set_option maxHeartbeats 4000000 in
set_option maxRecDepth 100000 in
open Go.Proofs.Ytpojfebecmjloaa.Opq Go.Proofs.Ytpojfebecmjloaa.Mid in
theorem sector_Disk_Read.calls (g : Nat) (s0_0 : Disk.DiskM) (a1 : Int) (r1 : List Int) (r2 : Int) (r3 : Disk.DiskM) (w0 w : World) (hI : IsS71 w0 w g s0_0) (hB : Below w0.heap.size w0 w) (h : sector_Disk_Read.f s0_0 a1 = some (r1, r2, r3)) :
    Calls Try.prog 16 #[.pointer (some ⟨g, 0, none⟩), .int .i64 a1] w fun e w' => ∃ v0_ : Value, e = .returned (.tuple #[v0_, .int .i64 r2]) ∧ Kd.R (Kd.int .u8) 5 w' w.heap.size (fun _ => True) v0_ r1 ∧ IsS71 w0 w' g r3 ∧ Below w0.heap.size w0 w' ∧ KeepO ts71 w0.heap.size w w' := by
  unfold sector_Disk_Read.f at h
  split at h
  case isFalse => cases h
  case isTrue hlen =>
  have HI := Aside0.mk hI
  have HB := Aside0.mk hB
  have HL := Aside0.mk hlen
  have HM := Aside0.mk (show (s0_0.loose.map (·.1)).length = s0_0.loose.length from List.length_map _)
  clear hlen hB
  cases ht : Disk.there s0_0 a1 with
  | false =>
    rw [ht, if_neg (by simp)] at h
    have h := Option.some.inj h
    injection h with h1 h
    injection h with h2 h3
    subst h1 h2 h3
    have HX := Aside0.mk (sector_Disk_Lasts.calls g s0_0 a1 [] 1 s0_0 w0 w HI.out HB.out (by unfold sector_Disk_Lasts.f; rw [ht]; rfl))
    clear hI h ht
    go_enter Try.func16, Try.ntmps16
    go_wp2_with fail
    refine HX.out.mono ?_
    rintro e w1 ⟨v0, rfl, ho0, hi1, hb1, hk1⟩
    have HO1 := Aside0.mk ho0
    have HI1 := Aside0.mk hi1
    have HB1 := Aside0.mk hb1
    have HK1 := Aside0.mk hk1
    clear HX ho0 hi1 hb1 hk1
    go_wp2_with fail
    refine (sector_Disk_Pending.calls0 g s0_0 w0 w1 HI1.out HL.out).mono ?_
    rintro e w2 ⟨v1, rfl, ho1, hb2⟩
    obtain ⟨A2, c2, rfl, _⟩ := Kd.R_reads ho1
    rw [HM.out]
    have HB2 := Aside0.mk hb2
    clear ho1 hb2
    go_wp2_with fail
    refine wp_loop_rounds 1 ?_
    rw [rounds_succ]
    by_cases hl : RowKit.wrap64 ((s0_0.loose.length : Int) - 1) ≥ 0
    · have d0 : decide (RowKit.wrap64 ((s0_0.loose.length : Int) - 1) ≥ 0) = true := decide_eq_true hl
      clear hl
      go_wp2
      go_ret2
      exact ⟨_, rfl, Kd.R_below HO1.out HB2.out, HI1.out.below HB2.out, below_weaken HB1.out HB1.out.size HB2.out, HK1.out.below_trans HB2.out⟩
    · have d0 : decide (RowKit.wrap64 ((s0_0.loose.length : Int) - 1) ≥ 0) = false := decide_eq_false hl
      clear hl
      go_wp2
      go_ret2
      exact ⟨_, rfl, Kd.R_below HO1.out HB2.out, HI1.out.below HB2.out, below_weaken HB1.out HB1.out.size HB2.out, HK1.out.below_trans HB2.out⟩
  | true =>
    rw [ht, if_pos rfl] at h
    have h := Option.some.inj h
    injection h with h1 h
    injection h with h2 h3
    subst h1 h2 h3
    have HX := Aside0.mk (sector_Disk_Lasts.calls g s0_0 a1 (Disk.sector s0_0.lasts a1) 0 s0_0 w0 w HI.out HB.out (by unfold sector_Disk_Lasts.f; rw [ht]; rfl))
    clear hI h ht
    go_enter Try.func16, Try.ntmps16
    go_wp2_with fail
    refine HX.out.mono ?_
    rintro e w1 ⟨v0, rfl, ho0, hi1, hb1, hk1⟩
    have HO1 := Aside0.mk ho0
    have HI1 := Aside0.mk hi1
    have HB1 := Aside0.mk hb1
    have HK1 := Aside0.mk hk1
    clear HX ho0 hi1 hb1 hk1
    go_wp2_with fail
    refine (sector_Disk_Pending.calls0 g s0_0 w0 w1 HI1.out HL.out).mono ?_
    rintro e w2 ⟨v1, rfl, ho1, hb2⟩
    obtain ⟨A2, c2, rfl, _⟩ := Kd.R_reads ho1
    rw [HM.out]
    have HI2 := Aside0.mk (HI1.out.below hb2)
    have HO2 := Aside0.mk (Kd.R_below HO1.out hb2)
    have HBB := Aside0.mk (below_weaken HB1.out HB1.out.size hb2)
    have HK2 := Aside0.mk (HK1.out.below_trans hb2)
    clear ho1 hb2 HI1 HO1 HB1 HK1 HI HB
    go_wp2_with fail
    go_loopg [8] (s0_0.loose.length + 1) (fun kq v8 wr => ∃ x : Int, v8 = .int .i64 x ∧ Aside0 (wr = w2) ∧ Aside0 ((kq : Int) = x + 2 ∧ x < s0_0.loose.length) ∧ Aside0 (∀ p ∈ s0_0.loose.drop (x + 1).toNat, p.1 ≠ a1))
    case atStart =>
      exact ⟨_, rfl, ⟨rfl⟩, ⟨by have := HL.out; rw [show RowKit.wrap64 ((s0_0.loose.length : Int) - 1) = (s0_0.loose.length : Int) - 1 by unfold RowKit.wrap64; omega]; omega⟩, ⟨by
        have := HL.out
        rw [show RowKit.wrap64 ((s0_0.loose.length : Int) - 1) = (s0_0.loose.length : Int) - 1 by unfold RowKit.wrap64; omega]
        rw [List.drop_of_length_le (by omega)]
        intro p hp
        cases hp⟩⟩
    case round =>
      obtain ⟨x, rfl, HW, HQ, HN⟩ := hrel
      obtain rfl := HW.out
      by_cases hx : 0 ≤ x
      · obtain ⟨m, rfl⟩ := Int.eq_ofNat_of_zero_le hx
        have hm : m < s0_0.loose.length := by have := HQ.out.2; omega
        obtain ⟨gl, vo, hg, hge, hgb, hgl, hown, hok⟩ := HI2.out
        obtain ⟨go, cap, cur, rfl, hgo, hh, hc, hcells⟩ := disk_loose hown hok (by omega)
        have hcell : wr.cell? ⟨g, 1, none⟩ = some (.slice (some ⟨go, 0, none⟩) s0_0.loose.length cap) := (blk_cell hg 1).trans rfl
        have q0 : (0 : Int) ≤ (m : Int) := by omega
        have q1 : (m : Int) < (s0_0.loose.length : Int) := by omega
        have d0 : decide ((m : Int) ≥ 0) = true := decide_eq_true q0
        have hc0 : wr.cell? ⟨go, m * 65, none⟩ = some (.int .i64 (s0_0.loose[m]).1) := by
          rw [show m * 65 = m * 65 + 0 from rfl]
          simpa [World.cell?, hh] using hcells m hm 0 _ rfl
        have HP := Aside0.mk (show (s0_0.loose[m]).2.length = 64 from (hok.loose _ (List.getElem_mem hm)).2.2)
        have HH := Aside0.mk hh
        have HC := Aside0.mk (fun j v => hcells m hm j v)
        have HM2 := Aside0.mk hm
        have HE := Aside0.mk (show s0_0.loose.drop m = s0_0.loose[m] :: s0_0.loose.drop (m + 1) from List.drop_eq_getElem_cons hm)
        have HPE := Aside0.mk (show s0_0.loose[m]? = some s0_0.loose[m] from List.getElem?_eq_getElem hm)
        generalize s0_0.loose[m] = p at hc0 HP HC HE HPE
        clear hx hm hg hge hgb hgl hown hok hgo hh hc hcells
        cases gk with
        | zero => exact absurd HQ.out.1 (by omega)
        | succ k1 =>
        by_cases he : p.1 = a1
        · have d1 : (p.1 == a1) = true := beq_iff_eq.2 he
          have HX := Aside0.mk (clone_64 HP.out (disk_loose_row (off := m * 65) HP.out HH.out HC.out))
          have HRD := Aside0.mk (show Disk.read s0_0 a1 = p.2 by
            have hm := HM2.out
            have he2 : s0_0.loose[m] = p := by have := HPE.out; rw [List.getElem?_eq_getElem hm] at this; exact Option.some.inj this
            unfold Disk.read
            rw [Disk.latest_at hm (he2 ▸ he) (by have := HN.out; rwa [show ((m : Int) + 1).toNat = m + 1 by omega] at this), he2]
            rfl)
          clear he
          go_wp2_with (go_at_call 44; refine HX.out.mono ?_; rintro e w3 ⟨v3, rfl, ho3, hb3⟩; have HO3 := Aside0.mk ho3; have HB3 := Aside0.mk hb3; clear ho3 hb3)
          go_ret2
          exact ⟨_, rfl, by rw [HRD.out]; exact Kd.R_lower HO3.out HK2.out.size, HI2.out.below HB3.out, below_weaken HBB.out HBB.out.size HB3.out, HK2.out.below_trans HB3.out⟩
        · have d1 : (p.1 == a1) = false := beq_eq_false_iff_ne.2 he
          have HN2 := Aside0.mk (show ∀ q ∈ s0_0.loose.drop m, q.1 ≠ a1 by
            rw [HE.out]
            intro q hq
            rcases List.mem_cons.1 hq with rfl | hq
            · exact he
            · have := HN.out
              rw [show ((m : Int) + 1).toNat = m + 1 by omega] at this
              exact this q hq)
          clear he
          go_wp2
          go_roundg k1
          case measure => omega
          case rel => exact ⟨(m : Int) - 1, by rw [show RowKit.wrap64 ((m : Int) - 1) = (m : Int) - 1 by have := HL.out; have := HM2.out; unfold RowKit.wrap64; omega], ⟨rfl⟩, ⟨by have := HQ.out; omega⟩, ⟨by rw [show ((m : Int) - 1 + 1).toNat = m by omega]; exact HN2.out⟩⟩
      · have d0 : decide (x ≥ 0) = false := decide_eq_false (by omega)
        have HRD := Aside0.mk (show Disk.read s0_0 a1 = Disk.sector s0_0.lasts a1 by
          unfold Disk.read
          rw [Disk.latest_none (by have := HN.out; rw [show (x + 1).toNat = 0 by omega] at this; exact this)]
          rfl)
        clear hx
        go_wp2
        go_ret2
        exact ⟨_, rfl, by rw [HRD.out]; exact HO2.out, HI2.out, HBB.out, HK2.out⟩


/-! ### sector_Disk_Flush: function 21 -/
-- FN rounds=0 making=1
-- IMPORT Derived.Test.YtpojfebecmjloaaMid
-- IMPORT Derived.Deep.RegionHeld3
-- IMPORT Derived.Deep.MidRow
def sector_Disk_Flush.f (s : Disk.DiskM)  : Option (Int × Disk.DiskM) := if s.loose.length < 1000000 then some (Disk.flush s) else none
set_option maxHeartbeats 8000000 in
set_option maxRecDepth 100000 in
open Go.Proofs.Ytpojfebecmjloaa.Opq Go.Proofs.Ytpojfebecmjloaa.Mid in
theorem sector_Disk_Flush.calls (g : Nat) (s0_0 : Disk.DiskM)  (r1 : Int) (r2 : Disk.DiskM) (w0 w : World) (hI : IsS71 w0 w g s0_0) (hB : Below w0.heap.size w0 w) (h : sector_Disk_Flush.f s0_0  = some (r1, r2)) :
    Calls Try.prog 21 #[.pointer (some ⟨g, 0, none⟩)] w fun e w' => e = .returned (.int .i64 r1) ∧ IsS71 w0 w' g r2 ∧ Below w0.heap.size w0 w' ∧ Go.Proofs.Ytpojfebecmjloaa.Opq.KeepO ts71 w0.heap.size w w' := by
  unfold sector_Disk_Flush.f at h
  split at h
  case isFalse => cases h
  case isTrue hlen =>
  have h := Option.some.inj h
  have HI := Aside0.mk hI
  have HB := Aside0.mk hB
  have HL := Aside0.mk hlen
  clear hI hlen hB
  unfold Disk.flush at h
  cases hd : (Disk.burn s0_0).down with
  | true =>
    rw [if_pos hd] at h
    injection h with h1 h2
    subst h1 h2
    have HX := Aside0.mk (sector_Disk_burn.calls g s0_0 false (Disk.burn s0_0) w0 w HI.out HB.out (by unfold sector_Disk_burn.f; rw [hd]; rfl))
    clear hd
    go_enter Try.func21, Try.ntmps21
    go_wp2_with (go_at_call 42; refine HX.out.mono ?_; rintro e w1 ⟨rfl, hr⟩; have HR1 := Aside0.mk hr; clear hr)
    go_ret
    exact ⟨rfl, HR1.out⟩
  | false =>
    rw [if_neg (by rw [hd]; simp)] at h
    injection h with h1 h2
    subst h1 h2
    have HX := Aside0.mk (sector_Disk_burn.calls g s0_0 true (Disk.burn s0_0) w0 w HI.out HB.out (by unfold sector_Disk_burn.f; rw [hd]; rfl))
    clear hd
    have hu := Try.underlying75
    have HSZ := Aside0.mk (show (Try.prog.info? 75).map (·.size) = some 65 by kernel_rfl)
    have HU := Aside0.mk hu
    clear hu
    go_enter Try.func21, Try.ntmps21
    go_wp2_with fail
    refine HX.out.mono ?_
    rintro e w1 ⟨rfl, hi, hb, hk⟩
    obtain ⟨gl, vo, hg, hge, hgb, hgl, hown, hok⟩ := hi
    obtain ⟨Av, cv, rfl, _⟩ := disk_loose_nil hown
    have hcell1 : w1.cell? ⟨g, 1, none⟩ = some (.slice Av s0_0.loose.length cv) := (blk_cell hg 1).trans rfl
    have HALL := Aside0.mk (And.intro hg (And.intro hge (And.intro hgb (And.intro hgl (And.intro hown hok)))))
    have HB1 := Aside0.mk hb
    have HK1 := Aside0.mk hk
    clear HX hg hge hgb hgl hown hok hb hk
    go_wp2_with fail
    go_loopg [17] (s0_0.loose.length + 1) (fun kq v17 wr => ∃ k : Nat, v17 = .int .i64 k ∧ Aside0 (k + kq = s0_0.loose.length + 1) ∧ Aside0 (w1.grownBy wr (some gl)) ∧ Aside0 (wr.heap[gl]? = some (.cells (Disk.bytes (Disk.settle (s0_0.loose.take k) s0_0.lasts)).toArray 73 (0, 0))))
    case atStart =>
      exact ⟨0, rfl, ⟨by omega⟩, ⟨⟨rfl, rfl, rfl, Nat.le_refl _, fun _ _ _ => rfl⟩⟩, ⟨HALL.out.2.2.2.1⟩⟩
    case round =>
      obtain ⟨k, rfl, HQ, HG, HLL⟩ := hrel
      by_cases hlt : k < s0_0.loose.length
      · have d0 : decide (k < s0_0.loose.length) = true := decide_eq_true hlt
        obtain ⟨go, cap, cur, hv, hgo, hh, hc, hcells⟩ : ∃ go cap cur, Value.slice Av s0_0.loose.length cv = .slice (some ⟨go, 0, none⟩) s0_0.loose.length cap ∧ w0.heap.size ≤ go ∧ w1.heap[go]? = some (.cells cur 75 (0, 0)) ∧ s0_0.loose.length ≤ cap ∧
          ∀ (k : Nat) (hk : k < s0_0.loose.length) j v, (Value.int .i64 (s0_0.loose[k]).1 :: Disk.bytes (s0_0.loose[k]).2)[j]? = some v → cur.toList[k * 65 + j]? = some v := disk_loose (s := Disk.burn s0_0) HALL.out.2.2.2.2.1 HALL.out.2.2.2.2.2 (show 0 < s0_0.loose.length by omega)
        injection hv with hA _ hcv
        subst hA hcv
        have q0 : (0 : Int) ≤ (k : Int) := by omega
        have q1 : (k : Int) < (s0_0.loose.length : Int) := by omega
        have hgogl : go ≠ gl := fun e => by
          subst e
          have h3 := HALL.out.2.2.2.1
          rw [hh] at h3
          injection h3 with hc
          injection hc with _ hc
          exact absurd hc (by decide)
        have HH := Aside0.mk ((HG.out.block go (blk_lt hh) (fun e => by injection e with e; exact hgogl e)).trans hh)
        have HC := Aside0.mk (fun j v => hcells k hlt j v)
        have HOK := Aside0.mk (HALL.out.2.2.2.2.2.loose s0_0.loose[k] (List.getElem_mem hlt))
        have HT := Aside0.mk hlt
        have HW := Aside0.mk (show s0_0.loose.take (k + 1) = s0_0.loose.take k ++ [s0_0.loose[k]] from List.take_succ_eq_append_getElem hlt)
        generalize s0_0.loose[k] = p at HC HW HOK
        obtain ⟨pa, b⟩ := p
        obtain ⟨m, rfl⟩ := Int.eq_ofNat_of_zero_le HOK.out.1
        have HE := Aside0.mk (show (Value.int .i64 (m : Int) :: Disk.bytes b).length = 65 by
          have := HOK.out.2.2
          simp [Disk.bytes, this])
        clear hlt hgo hh hc hcells hgogl
        cases gk with
        | zero => exact absurd HQ.out (by have := HT.out; omega)
        | succ k1 =>
        go_wp2_with (first
          | ((with_reducible refine gate_dst (N := 20) rfl ?_); refine load_blk rfl 75 (.tmp 19) rfl (Value.int .i64 (m : Int) :: Disk.bytes b) _ (by rfl) HH.out HC.out HU.out rfl (by rw [HE.out]; exact HSZ.out) ?_)
          | ((with_reducible refine gate_dst (N := 4) rfl ?_); refine box_event rfl (N := 4) rfl (cs := (Value.int .i64 0 :: Disk.bytes (List.replicate 64 0)).toArray) (t := 75) (by kernel_rfl) ?_; intro gb hgb w5 hbox hb5; have HX := Aside0.mk hbox; have HB5 := Aside0.mk hb5; have HGB := Aside0.mk hgb; clear hgb hbox hb5)
          | ((with_reducible refine gate_store (t := 75) (p := 4) rfl ?_); refine store_new rfl 75 (.tmp 4) (.tmp 20) rfl (Value.int .i64 (m : Int) :: Disk.bytes b) (by rfl) (by rfl) HX.out (by rw [HE.out]; rfl) (by rw [HE.out]; exact HSZ.out) (elem_one ((m : Int), b)) ?_; intro w6 hx6 hg6 hs6; have HX6 := Aside0.mk hx6; have HB6 := Aside0.mk (show Below wr.heap.size wr w6 from HB5.out.grown hg6 HB5.out.size (fun k e => by injection e with e; have := HGB.out; omega)); clear hx6 hg6 hs6))
        obtain ⟨n, hn⟩ : ∃ n, n = s0_0.lasts.length / 64 := ⟨_, rfl⟩
        obtain ⟨bb, hbb⟩ : ∃ bb, bb = Disk.bytes b := ⟨_, rfl⟩
        have hbl : bb.length = 64 := by rw [hbb, Disk.bytes_length]; exact HOK.out.2.2
        have p0 : (0 : Int) ≤ (m : Int) := by omega
        have hmn : m < n := by have h2 : (m : Int) < ((s0_0.lasts.length / 64 : Nat) : Int) := HOK.out.2.1; omega
        have p1 : (m : Int) < (n : Int) := by omega
        have HGR6 := Aside0.mk (show w1.grownBy w6.drew (some gl) from grown_below HG.out (show Below wr.heap.size wr w6.drew from ⟨HB6.out.1, HB6.out.2, HB6.out.3, HB6.out.4, HB6.out.5⟩))
        have hL6 : w6.drew.heap[gl]? = some (.cells (Disk.bytes (Disk.settle (s0_0.loose.take k) s0_0.lasts)).toArray 73 (0, 0)) := (HB6.out.block gl (blk_lt HLL.out)).trans HLL.out
        have hbo := Disk.there_in (s := Disk.burn s0_0) HALL.out.2.2.2.2.2 (at_ := (m : Int)) (by unfold Disk.there; rw [decide_eq_true HOK.out.1, decide_eq_true HOK.out.2.1]; rfl)
        have hLl : (Disk.settle (s0_0.loose.take k) s0_0.lasts).length = s0_0.lasts.length := settle_length (fun p hp => by
            have h2 := HALL.out.2.2.2.2.2.loose p (List.mem_of_mem_take hp)
            have h3 := Disk.there_in HALL.out.2.2.2.2.2 (at_ := p.1) (by unfold Disk.there; rw [decide_eq_true h2.1, decide_eq_true h2.2.1]; rfl)
            exact ⟨h3.2.2, h2.2.2⟩)
        have hoff : m * 64 + b.length ≤ (Disk.settle (s0_0.loose.take k) s0_0.lasts).length := by rw [hLl]; have := hbo.2.2; have := HOK.out.2.2; simp at *; omega
        have HPUT := Aside0.mk (put_world hL6 hoff)
        rw [← hbb] at HPUT
        have hgw : w6.drew.heap[g]? = _ := (HGR6.out.block g (blk_lt HALL.out.1) (fun e => by injection e with e; exact disk_ne HALL.out.1 HALL.out.2.2.2.1 e)).trans HALL.out.1
        have hS := disk_step (n := n) (m := m) (bb := bb) (show w6.drew.heap[g]? = _ from hn ▸ hgw) hL6 HX6.out hbb (by omega) (disk_ne HALL.out.1 HALL.out.2.2.2.1) (show gb ≠ gl from fun e => by subst e; have := blk_lt HLL.out; have := HGB.out; omega) hbl
        have hSd := hS.1
        have hSs := hS.2
        have hi : (Try.prog.info? 73).map (·.size) = some bb.length := by rw [hbl]; kernel_rfl
        have hu := Try.underlying73
        have h1 : ∀ v ∈ bb, v.oneCell' = true := by rw [hbb]; intro v hv; unfold Disk.bytes at hv; obtain ⟨x, _, rfl⟩ := List.mem_map.1 hv; rfl
        have HGX := Aside0.mk (show w1.grownBy (w6.drew.setCells gl (m * 64) bb) (some gl) from grown_row HGR6.out (grown_setCells gl (m * 64) bb _))
        have HBB := Aside0.mk hbb
        clear hS hgw hoff hLl hbo hL6 hbb hn hmn
        go_region_held3 (fun w' => w'.cell? ⟨g, 0, none⟩ = some (.slice (some ⟨gl, 0, none⟩) n n) ∧ w'.cell? ⟨gb, 0, none⟩ = some (.int .i64 (m : Int)) ∧ w'.rangeAt gb 1 bb ∧ w'.there gl (m * 64) bb.length) (first | exact hSd | exact hSs) (fail)
        clear hSd hSs hu hi h1
        go_wp2
        go_roundg k1
        case measure => omega
        case rel => exact ⟨k + 1, (by rw [show RowKit.wrap64 ((k : Int) + 1) = ((k + 1 : Nat) : Int) by have := HL.out; have := HT.out; unfold RowKit.wrap64; omega]), ⟨by have := HQ.out; omega⟩, HGX, ⟨by rw [HW.out, settle_snoc]; exact HPUT.out⟩⟩
      · have d0 : decide (k < s0_0.loose.length) = false := decide_eq_false hlt
        have HT := Aside0.mk (show s0_0.loose.length ≤ k by omega)
        clear hlt
        have hgw : wr.heap[g]? = _ := (HG.out.block g (blk_lt HALL.out.1) (fun e => by injection e with e; exact disk_ne HALL.out.1 HALL.out.2.2.2.1 e)).trans HALL.out.1
        have hcg : wr.cell? ⟨g, 1, none⟩ = some (.slice Av s0_0.loose.length cv) := (blk_cell hgw 1).trans rfl
        have hfg : wr.frozen? ⟨g, 1, none⟩ = false := blk_frozen hgw 1
        have HGW := Aside0.mk hgw
        clear hgw
        go_wp2
        go_ret
        have hfin := disk_landed (s := Disk.burn s0_0) (W := wr.setCell ⟨g, 1, none⟩ (.slice none 0 0)) (L := Disk.settle s0_0.loose s0_0.lasts) (f := (Disk.burn s0_0).fuse) (dn := (Disk.burn s0_0).down) HALL.out HB1.out HG.out (by have := HLL.out; rw [List.take_of_length_le HT.out] at this; exact this)
          (settle_length (fun p hp => by
            have h2 := HALL.out.2.2.2.2.2.loose p hp
            have h3 := Disk.there_in HALL.out.2.2.2.2.2 (at_ := p.1) (by unfold Disk.there; rw [decide_eq_true h2.1, decide_eq_true h2.2.1]; rfl)
            exact ⟨h3.2.2, h2.2.2⟩))
          (by simpa using blk_set HGW.out 1 (.slice none 0 0)) (fun k hk => Below.heap_setCell _ _ _ _ hk) (by simp [World.setCell]) ⟨rfl, rfl, rfl⟩
        exact ⟨rfl, hfin.1, hfin.2.1, HK1.out.trans hfin.2.2⟩


-- NOT PRINTED: function 74 (utf8_RuneCountInString)

-- NOT PRINTED: function 71 (utf8_RuneCount)

-- NOT PRINTED: function 72 (bytealg_Count)

/-! ### bytes_Equal: function 68 -/
def bytes_Equal.f (l0 : List Int) (l1 : List Int) : Option (Bool) := some ((strOfNums l0).toList == (strOfNums l1).toList)
set_option maxHeartbeats 8000000 in
set_option maxRecDepth 100000 in
theorem bytes_Equal.calls (A0 : Option Addr) (c0 : Nat) (l0 : List Int) (A1 : Option Addr) (c1 : Nat) (l1 : List Int) (r : Bool) (w : World) (hr0 : Kd.C (Kd.int .u8) w A0 l0.length l0) (hc0 : l0.length ≤ c0) (hr1 : Kd.C (Kd.int .u8) w A1 l1.length l1) (hc1 : l1.length ≤ c1) (h : bytes_Equal.f l0 l1 = some r) :
    Calls Try.prog 68 #[.slice A0 l0.length c0, .slice A1 l1.length c1] w fun e w' => e = .returned (.bool r) ∧ Drawn0 w w' := by
  have HR0 := Aside0.mk hr0
  have HC0 := Aside0.mk hc0
  clear hr0 hc0
  have HR1 := Aside0.mk hr1
  have HC1 := Aside0.mk hc1
  clear hr1 hc1
  have H : (some ((strOfNums l0).toList == (strOfNums l1).toList)) = some r := h
  clear h
  obtain rfl := Option.some.inj H
  have hcv3 := Kd.C_string (P := Try.prog) (A := A0) (c := c0) Try.underlying22 Try.underlying5 Try.underlying9 HR0.out
  have hcv4 := Kd.C_string (P := Try.prog) (A := A1) (c := c1) Try.underlying22 Try.underlying5 Try.underlying9 HR1.out
  go_enter Try.func68, Try.ntmps68
  go_wp2
  go_ret
  exact ⟨by first | rfl | (simp; done) | (simp [*]; done), by repeat (first | exact Drawn0.refl _ | apply Drawn0.step)⟩

-- NOT PRINTED: function 79 (bytealg_IndexByte)

-- NOT PRINTED: function 75 (bytes_IndexByte)

-- NOT PRINTED: function 76 (bytealg_Index)

/-! ### bytealg_Cutover: function 77 -/
-- FN rounds=0 making=1
def bytealg_Cutover.f : Nat := 0


/-! ### bytealg_hashStr_byte: function 80 -/
-- FN rounds=0 making=1
def bytealg_hashStr_byte.f : Nat := 0


/-! ### bytealg_IndexRabinKarp_byte: function 78 -/
-- FN rounds=0 making=1
def bytealg_IndexRabinKarp_byte.f : Nat := 0


-- NOT PRINTED: function 73 (bytes_Index)

-- NOT PRINTED: function 64 (bytes_Count)

/-! ### region_zero: function 46 -/
-- FN rounds=0 making=1
-- IMPORT Derived.Lib.Bytealg
-- IMPORT Derived.Lib.BytesEntry
-- IMPORT Derived.Laws.Externs
def region_zero.f (l0 : List Int) : Option Bool := some (l0.all (fun x => (x.toNat.toUInt8 == 0)))
theorem count_run (A : Option Addr) (c : Nat) (l : List Int) (w : World) (h : 0 < l.length → ∃ ad, A = some ad ∧ ∀ j, j < l.length → w.cell? (ad.add j) = some (.int .u8 (l.getD j 0))) :
    (Extern.BytealgCount.count #[.slice A l.length c, .int .u8 0]).run Try.prog w = .ok (.int .i64 (Lib.countByte (Lib.bytesOf l) 0)) w := by
  have hb : (Extern.Bytes.bytesOf (.slice A l.length c)).run Try.prog w = .ok ⟨(Lib.bytesOf l).toArray⟩ w := by
    cases A with
    | none =>
      obtain rfl : l = [] := by
        by_cases h0 : 0 < l.length
        · obtain ⟨ad, he, _⟩ := h h0
          cases he
        · exact List.eq_nil_of_length_eq_zero (by omega)
      rfl
    | some ad =>
      have hl := Lib.run_loadBytesX (P := Try.prog) w l ad .empty (fun j x hj => by
        have hjl : j < l.length := (List.getElem?_eq_some_iff.1 hj).1
        obtain ⟨ad2, he, hc⟩ := h (by omega)
        injection he with he
        subst he
        rw [hc j hjl, List.getD_eq_getElem?_getD, hj]
        rfl)
      refine Eq.trans hl ?_
      congr 1
      apply ByteArray.ext
      simp
  have hs := Lib.run_countString (P := Try.prog) ⟨(Lib.bytesOf l).toArray⟩ 0 w
  change Sem.run Try.prog (Extern.Bytes.bytesOf (.string ⟨(Lib.bytesOf l).toArray⟩) >>= fun b => _) w = _ at hs
  change Sem.run Try.prog (Extern.Bytes.bytesOf (.slice A l.length c) >>= fun b => _) w = _
  rw [Sem.run_bind, hb]
  exact hs
theorem bytes_Count_one (A : Option Addr) (c b2 d : Nat) (l : List Int) (w : World) (hr : Kd.C (Kd.int .u8) w A l.length l) (hc2 : w.cell? ⟨b2, 0, none⟩ = some (.int .u8 0)) :
    Calls Try.prog 64 #[.slice A l.length c, .slice (some ⟨b2, 0, none⟩) 1 d] w fun e w' => e = .returned (.int .i64 (Lib.countByte (Lib.bytesOf l) 0)) ∧ w = w' := by
  obtain ⟨_, _, hcells⟩ := Kd.reads_of_C (d := (0 : Int)) hr
  have hx := count_run A c l w hcells
  have HX := Aside0.mk hx
  clear hx hcells hr
  go_enter Try.func64, Try.ntmps64
  go_wp2
  rw [run_callFunc_extern Try.func72 (by kernel_rfl) (by kernel_rfl) (by kernel_rfl) (e := Extern.BytealgCount.count) (by kernel_rfl), HX.out]
  simp only [Result.andThen]
  rw [Oper.upon_value]
  go_wp2
  go_ret
  exact ⟨rfl, rfl⟩
theorem count_all (l : List Int) : (Lib.countByte (Lib.bytesOf l) 0 = l.length) ↔ (l.all (fun x => (x.toNat.toUInt8 == 0))) = true := by
  unfold Lib.countByte Lib.bytesOf
  rw [show l.length = (l.map (fun n => n.toNat.toUInt8)).length by simp, List.count_eq_length]
  simp only [List.mem_map, List.all_eq_true, beq_iff_eq]
  constructor
  · intro h x hx
    exact (h _ ⟨x, hx, rfl⟩).symm
  · rintro h _ ⟨x, hx, rfl⟩
    exact (h x hx).symm
theorem region_zero.calls (A0 : Option Addr) (c0 : Nat) (l0 : List Int) (r : Bool) (w : World) (hr0 : Kd.C (Kd.int .u8) w A0 l0.length l0) (hc0 : l0.length ≤ c0) (h : region_zero.f l0 = some r) :
    Calls Try.prog 46 #[.slice A0 l0.length c0] w fun e w' => e = .returned (.bool r) ∧ Below w.heap.size w w' := by
  have h := Option.some.inj h
  have HR := Aside0.mk hr0
  have HE := Aside0.mk (show (((Lib.countByte (Lib.bytesOf l0) 0 : Nat) : Int) == (l0.length : Int)) = r by
    rw [← h]
    have hc := count_all l0
    by_cases hh : Lib.countByte (Lib.bytesOf l0) 0 = l0.length
    · rw [hc.1 hh, hh, beq_self_eq_true]
    · have h2 : (l0.all (fun x => (x.toNat.toUInt8 == 0))) = false := Bool.eq_false_iff.2 (fun e => hh (hc.2 e))
      rw [h2]
      exact beq_eq_false_iff_ne.2 (fun e => hh (by omega)))
  clear hr0 h
  go_enter Try.func46, Try.ntmps46
  go_wp2_with (go_at_call 64; refine (bytes_Count_one _ _ _ _ _ _ (Kd.C_alloc HR.out _) (by simp)).mono ?_; rintro e w' ⟨rfl, rfl⟩)
  go_ret
  exact ⟨by rw [← HE.out]; first | done | rfl, below_alloc (Below.refl _ _) _⟩


/-! ### region_Clean: function 25 -/
def region_Clean.l0 : Nat → Int → Bool → Int → Disk.DiskM → Option (Int × Disk.DiskM)
  | 0, _, _, _, _ => none
  | k + 1, x2, x7, x8, x1000 => (sector_Disk_Len.f x1000).bind fun bt104 => (if x8 < (mn x2 bt104.1) then ((sector_Disk_Read.f bt104.2 x8).bind fun bt108 => ((region_zero.f bt108.1).bind fun t113 => (if t113 = true then (region_Clean.l0 k x2 x7 (wrap64 (x8 + 1)) bt108.2.2) else ((sector_Disk_Write.f bt108.2.2 x8 ([] : List Int)).bind fun bt114 => (if bt114.1 = 0 then (region_Clean.l0 k x2 true (wrap64 (x8 + 1)) bt114.2) else (some (bt114.1, bt114.2))))))) else (if x7 = true then ((sector_Disk_Flush.f bt104.2).bind fun bt106 => (some (bt106.1, bt106.2))) else (some (0, bt104.2))))
def region_Clean.f (k : Nat) (s0_0 : Disk.DiskM) (a1 : Int) (a2 : Int) : Option (Int × Disk.DiskM) := region_Clean.l0 k a2 false (mx a1 0) s0_0
theorem region_Clean.mono_l : ∀ k, (∀ y0 y1 y2 y3, LeO (region_Clean.l0 k y0 y1 y2 y3) (region_Clean.l0 (k + 1) y0 y1 y2 y3))
  | 0 => fun _ _ _ _ r h => by simp [region_Clean.l0] at h
  | k + 1 => by
    have ih0 := region_Clean.mono_l k
    · intro y0 y1 y2 y3
      unfold region_Clean.l0
      repeat' first
      | (with_reducible exact ih0 _ _ _ _)
      | (with_reducible exact LeO.refl _)
      | (with_reducible exact LeO.none _)
      | (with_reducible refine LeO.ite ?_ ?_)
      | (with_reducible refine LeO.bind ?_ (fun _ => ?_))
      | exact ih0 _ _ _ _
      | exact LeO.none _
      | refine LeO.ite ?_ ?_
      | refine LeO.bind ?_ (fun _ => ?_)
theorem region_Clean.mono : ∀ a0 a1 a2 k, LeO (region_Clean.f k a0 a1 a2) (region_Clean.f (k + 1) a0 a1 a2) := by
  intro a0 a1 a2 k
  have ih0 := region_Clean.mono_l k
  unfold region_Clean.f
  repeat' first
      | (with_reducible exact ih0 _ _ _ _)
      | (with_reducible exact LeO.refl _)
      | (with_reducible exact LeO.none _)
      | (with_reducible refine LeO.ite ?_ ?_)
      | (with_reducible refine LeO.bind ?_ (fun _ => ?_))
      | exact ih0 _ _ _ _
      | exact LeO.none _
      | refine LeO.ite ?_ ?_
      | refine LeO.bind ?_ (fun _ => ?_)
set_option maxHeartbeats 8000000 in
set_option maxRecDepth 100000 in
theorem region_Clean.calls (k : Nat) (g : Nat) (s0_0 : Disk.DiskM) (a1 : Int) (a2 : Int) (r1 : Int) (r2 : Disk.DiskM) (w0 w : World) (hI : IsS71 w0 w g s0_0) (hB : Below w0.heap.size w0 w) (h : region_Clean.f k s0_0 a1 a2 = some (r1, r2)) :
    Calls Try.prog 25 #[.pointer (some ⟨g, 0, none⟩), .int .i64 a1, .int .i64 a2] w fun e w' => e = .returned (.int .i64 r1) ∧ IsS71 w0 w' g r2 ∧ Below w0.heap.size w0 w' ∧ Go.Proofs.Ytpojfebecmjloaa.Opq.KeepO ts71 w0.heap.size w w' := by
  have HI0 := Aside0.mk hI
  have HK := Aside0.mk (Go.Proofs.Ytpojfebecmjloaa.Opq.KeepO.refl ts71 w0.heap.size w)
  have HL := Aside0.mk hB.size
  clear hI
  have HW0 := Aside0.mk hB.size
  have HB := Aside0.mk hB
  clear hB
  have H : (region_Clean.l0 k a2 false (mx a1 0) s0_0) = some (r1, r2) := h
  clear h
  obtain ⟨ji4, hji4⟩ : ∃ j_ : Int, (mx a1 0) = j_ := ⟨_, rfl⟩
  replace H : (region_Clean.l0 k a2 false ji4 s0_0) = some (r1, r2) := by first | (rw [hji4] at H; exact H) | (simp only [hji4] at H ⊢; exact H)
  (try (have hji4l : 0 ≤ ji4 := by (rw [← hji4]; unfold mx; (repeat' split) <;> omega)))
  (try (have hji4m : 0 ≤ ji4 := by omega))
  have hji4_ : (if a1 < 0 then 0 else a1) = ji4 := hji4
  have H' := Aside0.mk H
  clear H
  go_enter Try.func25, Try.ntmps25
  go_wp2
  go_loopg [7, 8] k (fun kq v7 v8 w' => ∃ (x7_1 : Bool) (x8_1 : Int) (x1000_1 : Disk.DiskM), v7 = .bool x7_1 ∧ v8 = .int .i64 x8_1 ∧ Aside0 (region_Clean.l0 kq a2 x7_1 x8_1 x1000_1 = some (r1, r2)) ∧ Aside0 (kq ≤ k) ∧ Aside0 (IsS71 w0 w' g x1000_1) ∧ Aside0 (Go.Proofs.Ytpojfebecmjloaa.Opq.KeepO ts71 w0.heap.size w w') ∧ Aside0 (Below w0.heap.size w0 w'))
  case atStart => exact ⟨(false), (ji4), (s0_0), (by first | rfl | (simp; done) | (simp [*]; done)), (by first | rfl | (simp; done) | (simp only [← hji4] <;> (first | rfl | simp)) | (simp [*]; done)), H', ⟨Nat.le_refl _⟩, ⟨by repeat (first | (with_reducible first | exact HI0.out | apply IsS71.alloc | apply IsS71.drewN | apply IsS71.drew) | exact HI0.out)⟩, ⟨by repeat (first | (with_reducible first | exact HK.out | apply Go.Proofs.Ytpojfebecmjloaa.Opq.KeepO.drewN | apply Go.Proofs.Ytpojfebecmjloaa.Opq.KeepO.drew | apply Go.Proofs.Ytpojfebecmjloaa.Opq.KeepO.alloc) | exact HK.out)⟩, ⟨by repeat (first | (with_reducible first | exact HB.out | apply below_alloc | apply pw_below_drewN | apply below_drew1 | refine below_set ?_ (IsS71.ge HI0.out)) | exact HB.out)⟩⟩
  case round =>
    clear H'
    try clear c2
    try clear p2
    obtain ⟨x7_1, x8_1, x1000_1, rfl, rfl, HA, HK1, HI0, HK, HB⟩ := hrel
    cases gk with
    | zero => exact absurd HA.out (by simp [region_Clean.l0])
    | succ k1 =>
      have H := HA.out
      clear HA
      simp only [region_Clean.l0] at H
      replace H := Option.bind_eq_some_iff.mp H
      obtain ⟨⟨t104, t105⟩, A50, H⟩ := H
      replace H : (if x8_1 < (mn a2 t104) then ((sector_Disk_Read.f t105 x8_1).bind fun bt108 => ((region_zero.f bt108.1).bind fun t113 => (if t113 = true then (region_Clean.l0 k1 a2 x7_1 (wrap64 (x8_1 + 1)) bt108.2.2) else ((sector_Disk_Write.f bt108.2.2 x8_1 ([] : List Int)).bind fun bt114 => (if bt114.1 = 0 then (region_Clean.l0 k1 a2 true (wrap64 (x8_1 + 1)) bt114.2) else (some (bt114.1, bt114.2))))))) else (if x7_1 = true then ((sector_Disk_Flush.f t105).bind fun bt106 => (some (bt106.1, bt106.2))) else (some (0, t105)))) = some (r1, r2) := H
      have A5 := Aside0.mk A50
      clear A50
      obtain ⟨ji6, hji6⟩ : ∃ j_ : Int, (mn a2 t104) = j_ := ⟨_, rfl⟩
      replace H : (if x8_1 < (ji6) then ((sector_Disk_Read.f t105 x8_1).bind fun bt108 => ((region_zero.f bt108.1).bind fun t113 => (if t113 = true then (region_Clean.l0 k1 a2 x7_1 (wrap64 (x8_1 + 1)) bt108.2.2) else ((sector_Disk_Write.f bt108.2.2 x8_1 ([] : List Int)).bind fun bt114 => (if bt114.1 = 0 then (region_Clean.l0 k1 a2 true (wrap64 (x8_1 + 1)) bt114.2) else (some (bt114.1, bt114.2))))))) else (if x7_1 = true then ((sector_Disk_Flush.f t105).bind fun bt106 => (some (bt106.1, bt106.2))) else (some (0, t105)))) = some (r1, r2) := by first | (rw [hji6] at H; exact H) | (simp only [hji6] at H ⊢; exact H)
      (try rw [hji6] at A5)
      have hji6_ : (if t104 < a2 then t104 else a2) = ji6 := hji6
      by_cases c7 : x8_1 < (ji6)
      · rw [if_pos c7] at H
        have c7b0 : decide (x8_1 < (ji6)) = true := decide_eq_true c7
        clear c7
        replace H := Option.bind_eq_some_iff.mp H
        obtain ⟨⟨t108, t111, t112⟩, A80, H⟩ := H
        replace H : ((region_zero.f t108).bind fun t113 => (if t113 = true then (region_Clean.l0 k1 a2 x7_1 (wrap64 (x8_1 + 1)) t112) else ((sector_Disk_Write.f t112 x8_1 ([] : List Int)).bind fun bt114 => (if bt114.1 = 0 then (region_Clean.l0 k1 a2 true (wrap64 (x8_1 + 1)) bt114.2) else (some (bt114.1, bt114.2)))))) = some (r1, r2) := H
        have A8 := Aside0.mk A80
        clear A80
        replace H := Option.bind_eq_some_iff.mp H
        obtain ⟨t113, A90, H⟩ := H
        replace H : (if t113 = true then (region_Clean.l0 k1 a2 x7_1 (wrap64 (x8_1 + 1)) t112) else ((sector_Disk_Write.f t112 x8_1 ([] : List Int)).bind fun bt114 => (if bt114.1 = 0 then (region_Clean.l0 k1 a2 true (wrap64 (x8_1 + 1)) bt114.2) else (some (bt114.1, bt114.2))))) = some (r1, r2) := H
        have A9 := Aside0.mk A90
        clear A90
        by_cases c10 : t113 = true
        · subst c10
          have H1 : (region_Clean.l0 k1 a2 x7_1 (wrap64 (x8_1 + 1)) t112) = some (r1, r2) := by rw [if_pos rfl] at H; exact H
          clear H
          have H := H1
          clear H1
          have H' := Aside0.mk H
          clear H
          go_wp2_with (first | ((with_reducible refine gate_callee (f := 22) rfl ?_); refine goesL_ (some 17) rfl rfl Try.func22 (by kernel_rfl) rfl #[.pointer (some ⟨g, 0, none⟩)] rfl (by (try simp only [List.map_toArray, List.map_cons, List.map_nil]); first | done | rfl | (simp only [List.length_drop, List.length_take]; rfl)) ?_; (with_reducible refine (sector_Disk_Len.calls g x1000_1 t104 t105 w0 _ ?side1 ?side2 A5.out).mono ?_); (case side1 => repeat (first | (with_reducible first | exact HI0.out | apply IsS71.alloc | apply IsS71.drewN | apply IsS71.drew) | exact HI0.out)); (case side2 => repeat (first | (with_reducible first | exact HB.out | apply below_alloc | apply pw_below_drewN | apply below_drew1 | refine below_set ?_ (IsS71.ge HI0.out)) | exact HB.out)); rintro e w11 ⟨rfl, hi, hb, hk⟩; refine ⟨_, rfl, ?_⟩; have n0_ := Aside0.mk (Go.Proofs.Ytpojfebecmjloaa.Opq.KeepO.trans (by repeat (first | (with_reducible first | exact HK.out | apply Go.Proofs.Ytpojfebecmjloaa.Opq.KeepO.drewN | apply Go.Proofs.Ytpojfebecmjloaa.Opq.KeepO.drew | apply Go.Proofs.Ytpojfebecmjloaa.Opq.KeepO.alloc) | exact HK.out)) hk); have n1_ := Aside0.mk (hb); have n2_ := Aside0.mk (hi); clear HK; clear HB; clear HI0; have HK := n0_; have HB := n1_; have HI0 := n2_; clear n0_ n1_ n2_; (try clear hb); (try clear hb2); (try clear hk); (try clear hi)) | ((with_reducible refine gate_callee (f := 16) rfl ?_); refine goesL_ (some 25) rfl rfl Try.func16 (by kernel_rfl) rfl #[.pointer (some ⟨g, 0, none⟩), .int .i64 x8_1] rfl (by (try simp only [List.map_toArray, List.map_cons, List.map_nil]); first | done | rfl | (simp only [List.length_drop, List.length_take]; rfl)) ?_; (with_reducible refine (sector_Disk_Read.calls g t105 x8_1 t108 t111 t112 w0 _ ?side1 ?side2 A8.out).mono ?_); (case side1 => repeat (first | (with_reducible first | exact HI0.out | apply IsS71.alloc | apply IsS71.drewN | apply IsS71.drew) | exact HI0.out)); (case side2 => repeat (first | (with_reducible first | exact HB.out | apply below_alloc | apply pw_below_drewN | apply below_drew1 | refine below_set ?_ (IsS71.ge HI0.out)) | exact HB.out)); rintro e w12 ⟨v109, rfl, ho0, hi, hb, hk⟩; refine ⟨_, rfl, ?_⟩; have n0_ := Aside0.mk (Kd.R_lower ho0 (Go.Proofs.Ytpojfebecmjloaa.Opq.KeepO.size (by repeat (first | (with_reducible first | exact HK.out | apply Go.Proofs.Ytpojfebecmjloaa.Opq.KeepO.drewN | apply Go.Proofs.Ytpojfebecmjloaa.Opq.KeepO.drew | apply Go.Proofs.Ytpojfebecmjloaa.Opq.KeepO.alloc) | exact HK.out)))); have n1_ := Aside0.mk (Go.Proofs.Ytpojfebecmjloaa.Opq.KeepO.trans (by repeat (first | (with_reducible first | exact HK.out | apply Go.Proofs.Ytpojfebecmjloaa.Opq.KeepO.drewN | apply Go.Proofs.Ytpojfebecmjloaa.Opq.KeepO.drew | apply Go.Proofs.Ytpojfebecmjloaa.Opq.KeepO.alloc) | exact HK.out)) hk); have n2_ := Aside0.mk (hb); have n3_ := Aside0.mk (hi); clear HK; clear HB; clear HI0; have HO110 := n0_; have HK := n1_; have HB := n2_; have HI0 := n3_; clear n0_ n1_ n2_ n3_; (try clear hb); (try clear hb2); (try clear hk); (try clear hi); (try clear ho0); obtain ⟨Ao13, co13, eo13⟩ := Kd.R_slice HO110.out; subst eo13) | ((with_reducible refine gate_callee (f := 46) rfl ?_); refine goesL_ (some 29) rfl rfl Try.func46 (by kernel_rfl) rfl #[.slice Ao13 t108.length co13] rfl (by (try simp only [List.map_toArray, List.map_cons, List.map_nil]); first | done | rfl | (simp only [List.length_drop, List.length_take]; rfl)) ?_; (with_reducible refine (region_zero.calls _ _ t108 true _ ?side1 ?side2 A9.out).mono ?_); (case side1 => repeat (first | exact (Kd.R_reads' HO110.out).2.2 | (with_reducible refine Kd.C_alloc ?_ _) | (with_reducible refine Kd.C_drewN ?_ _) | (with_reducible refine Kd.C_drew ?_))); (case side2 => exact (Kd.R_reads' HO110.out).2.1); rintro e w14 ⟨rfl, hb⟩; refine ⟨_, rfl, ?_⟩; have n0_ := Aside0.mk (Kd.R_below (by (with_reducible repeat (first | apply Kd.R_alloc | apply Kd.R_drewN | apply Kd.R_drew)); exact HO110.out) hb); have n1_ := Aside0.mk (IsS71.below (by repeat (first | (with_reducible first | exact HI0.out | apply IsS71.alloc | apply IsS71.drewN | apply IsS71.drew) | exact HI0.out)) hb); have n2_ := Aside0.mk (Go.Proofs.Ytpojfebecmjloaa.Opq.KeepO.trans (by repeat (first | (with_reducible first | exact HK.out | apply Go.Proofs.Ytpojfebecmjloaa.Opq.KeepO.drewN | apply Go.Proofs.Ytpojfebecmjloaa.Opq.KeepO.drew | apply Go.Proofs.Ytpojfebecmjloaa.Opq.KeepO.alloc) | exact HK.out)) (Go.Proofs.Ytpojfebecmjloaa.Opq.KeepO.of_below hb)); have n3_ := Aside0.mk (below_step (by repeat (first | (with_reducible first | exact HB.out | apply below_alloc | apply pw_below_drewN | apply below_drew1 | refine below_set ?_ (IsS71.ge HI0.out)) | exact HB.out)) hb); clear HO110; clear HI0; clear HK; clear HB; have HO110 := n0_; have HI0 := n1_; have HK := n2_; have HB := n3_; clear n0_ n1_ n2_ n3_; (try clear hb); (try clear hb2); (try clear hk); (try clear hi)))
          go_roundg k1
          case measure => have := HK1.out; omega
          case rel => exact ⟨(x7_1), (wrap64 (x8_1 + 1)), (t112), (by first | rfl | (simp; done) | (simp [*]; done)), (by first | rfl | (simp; done) | (simp [*]; done)), H', ⟨by have := HK1.out; omega⟩, ⟨by repeat (first | (with_reducible first | exact HI0.out | apply IsS71.alloc | apply IsS71.drewN | apply IsS71.drew) | exact HI0.out)⟩, ⟨by repeat (first | (with_reducible first | exact HK.out | apply Go.Proofs.Ytpojfebecmjloaa.Opq.KeepO.drewN | apply Go.Proofs.Ytpojfebecmjloaa.Opq.KeepO.drew | apply Go.Proofs.Ytpojfebecmjloaa.Opq.KeepO.alloc) | exact HK.out)⟩, ⟨by repeat (first | (with_reducible first | exact HB.out | apply below_alloc | apply pw_below_drewN | apply below_drew1 | refine below_set ?_ (IsS71.ge HI0.out)) | exact HB.out)⟩⟩
        · replace c10 := Bool.eq_false_iff.mpr c10
          subst c10
          have H1 : ((sector_Disk_Write.f t112 x8_1 ([] : List Int)).bind fun bt114 => (if bt114.1 = 0 then (region_Clean.l0 k1 a2 true (wrap64 (x8_1 + 1)) bt114.2) else (some (bt114.1, bt114.2)))) = some (r1, r2) := by rw [if_neg (show ¬ (false = true) by decide)] at H; exact H
          clear H
          have H := H1
          clear H1
          replace H := Option.bind_eq_some_iff.mp H
          obtain ⟨⟨t114, t115⟩, A150, H⟩ := H
          replace H : (if t114 = 0 then (region_Clean.l0 k1 a2 true (wrap64 (x8_1 + 1)) t115) else (some (t114, t115))) = some (r1, r2) := H
          have A15 := Aside0.mk A150
          clear A150
          by_cases c16 : t114 = 0
          · rw [if_pos c16] at H
            have c16b0 : (t114 == 0) = true := beq_iff_eq.mpr c16
            have c16b1 : (t114 != 0) = false := bne_eq_false_iff_eq.mpr c16
            clear c16
            have H' := Aside0.mk H
            clear H
            go_wp2_with (first | ((with_reducible refine gate_callee (f := 22) rfl ?_); refine goesL_ (some 17) rfl rfl Try.func22 (by kernel_rfl) rfl #[.pointer (some ⟨g, 0, none⟩)] rfl (by (try simp only [List.map_toArray, List.map_cons, List.map_nil]); first | done | rfl | (simp only [List.length_drop, List.length_take]; rfl)) ?_; (with_reducible refine (sector_Disk_Len.calls g x1000_1 t104 t105 w0 _ ?side1 ?side2 A5.out).mono ?_); (case side1 => repeat (first | (with_reducible first | exact HI0.out | apply IsS71.alloc | apply IsS71.drewN | apply IsS71.drew) | exact HI0.out)); (case side2 => repeat (first | (with_reducible first | exact HB.out | apply below_alloc | apply pw_below_drewN | apply below_drew1 | refine below_set ?_ (IsS71.ge HI0.out)) | exact HB.out)); rintro e w17 ⟨rfl, hi, hb, hk⟩; refine ⟨_, rfl, ?_⟩; have n0_ := Aside0.mk (Go.Proofs.Ytpojfebecmjloaa.Opq.KeepO.trans (by repeat (first | (with_reducible first | exact HK.out | apply Go.Proofs.Ytpojfebecmjloaa.Opq.KeepO.drewN | apply Go.Proofs.Ytpojfebecmjloaa.Opq.KeepO.drew | apply Go.Proofs.Ytpojfebecmjloaa.Opq.KeepO.alloc) | exact HK.out)) hk); have n1_ := Aside0.mk (hb); have n2_ := Aside0.mk (hi); clear HK; clear HB; clear HI0; have HK := n0_; have HB := n1_; have HI0 := n2_; clear n0_ n1_ n2_; (try clear hb); (try clear hb2); (try clear hk); (try clear hi)) | ((with_reducible refine gate_callee (f := 16) rfl ?_); refine goesL_ (some 25) rfl rfl Try.func16 (by kernel_rfl) rfl #[.pointer (some ⟨g, 0, none⟩), .int .i64 x8_1] rfl (by (try simp only [List.map_toArray, List.map_cons, List.map_nil]); first | done | rfl | (simp only [List.length_drop, List.length_take]; rfl)) ?_; (with_reducible refine (sector_Disk_Read.calls g t105 x8_1 t108 t111 t112 w0 _ ?side1 ?side2 A8.out).mono ?_); (case side1 => repeat (first | (with_reducible first | exact HI0.out | apply IsS71.alloc | apply IsS71.drewN | apply IsS71.drew) | exact HI0.out)); (case side2 => repeat (first | (with_reducible first | exact HB.out | apply below_alloc | apply pw_below_drewN | apply below_drew1 | refine below_set ?_ (IsS71.ge HI0.out)) | exact HB.out)); rintro e w18 ⟨v109, rfl, ho0, hi, hb, hk⟩; refine ⟨_, rfl, ?_⟩; have n0_ := Aside0.mk (Kd.R_lower ho0 (Go.Proofs.Ytpojfebecmjloaa.Opq.KeepO.size (by repeat (first | (with_reducible first | exact HK.out | apply Go.Proofs.Ytpojfebecmjloaa.Opq.KeepO.drewN | apply Go.Proofs.Ytpojfebecmjloaa.Opq.KeepO.drew | apply Go.Proofs.Ytpojfebecmjloaa.Opq.KeepO.alloc) | exact HK.out)))); have n1_ := Aside0.mk (Go.Proofs.Ytpojfebecmjloaa.Opq.KeepO.trans (by repeat (first | (with_reducible first | exact HK.out | apply Go.Proofs.Ytpojfebecmjloaa.Opq.KeepO.drewN | apply Go.Proofs.Ytpojfebecmjloaa.Opq.KeepO.drew | apply Go.Proofs.Ytpojfebecmjloaa.Opq.KeepO.alloc) | exact HK.out)) hk); have n2_ := Aside0.mk (hb); have n3_ := Aside0.mk (hi); clear HK; clear HB; clear HI0; have HO110 := n0_; have HK := n1_; have HB := n2_; have HI0 := n3_; clear n0_ n1_ n2_ n3_; (try clear hb); (try clear hb2); (try clear hk); (try clear hi); (try clear ho0); obtain ⟨Ao19, co19, eo19⟩ := Kd.R_slice HO110.out; subst eo19) | ((with_reducible refine gate_callee (f := 46) rfl ?_); refine goesL_ (some 29) rfl rfl Try.func46 (by kernel_rfl) rfl #[.slice Ao19 t108.length co19] rfl (by (try simp only [List.map_toArray, List.map_cons, List.map_nil]); first | done | rfl | (simp only [List.length_drop, List.length_take]; rfl)) ?_; (with_reducible refine (region_zero.calls _ _ t108 false _ ?side1 ?side2 A9.out).mono ?_); (case side1 => repeat (first | exact (Kd.R_reads' HO110.out).2.2 | (with_reducible refine Kd.C_alloc ?_ _) | (with_reducible refine Kd.C_drewN ?_ _) | (with_reducible refine Kd.C_drew ?_))); (case side2 => exact (Kd.R_reads' HO110.out).2.1); rintro e w20 ⟨rfl, hb⟩; refine ⟨_, rfl, ?_⟩; have n0_ := Aside0.mk (Kd.R_below (by (with_reducible repeat (first | apply Kd.R_alloc | apply Kd.R_drewN | apply Kd.R_drew)); exact HO110.out) hb); have n1_ := Aside0.mk (IsS71.below (by repeat (first | (with_reducible first | exact HI0.out | apply IsS71.alloc | apply IsS71.drewN | apply IsS71.drew) | exact HI0.out)) hb); have n2_ := Aside0.mk (Go.Proofs.Ytpojfebecmjloaa.Opq.KeepO.trans (by repeat (first | (with_reducible first | exact HK.out | apply Go.Proofs.Ytpojfebecmjloaa.Opq.KeepO.drewN | apply Go.Proofs.Ytpojfebecmjloaa.Opq.KeepO.drew | apply Go.Proofs.Ytpojfebecmjloaa.Opq.KeepO.alloc) | exact HK.out)) (Go.Proofs.Ytpojfebecmjloaa.Opq.KeepO.of_below hb)); have n3_ := Aside0.mk (below_step (by repeat (first | (with_reducible first | exact HB.out | apply below_alloc | apply pw_below_drewN | apply below_drew1 | refine below_set ?_ (IsS71.ge HI0.out)) | exact HB.out)) hb); clear HO110; clear HI0; clear HK; clear HB; have HO110 := n0_; have HI0 := n1_; have HK := n2_; have HB := n3_; clear n0_ n1_ n2_ n3_; (try clear hb); (try clear hb2); (try clear hk); (try clear hi)) | ((with_reducible refine gate_callee (f := 14) rfl ?_); refine goesL_ (some 33) rfl rfl Try.func14 (by kernel_rfl) rfl #[.pointer (some ⟨g, 0, none⟩), .int .i64 x8_1, .slice none 0 0] rfl (by (try simp only [List.map_toArray, List.map_cons, List.map_nil]); first | done | rfl | (simp only [List.length_drop, List.length_take]; rfl)) ?_; (refine (sector_Disk_Write.calls g t112 x8_1 _ _ ([] : List Int) t114 t115 w0 _ ?side1 ?side2 ?side3 ?side4 A15.out).mono ?_); (case side1 => repeat (first | (with_reducible first | exact HI0.out | apply IsS71.alloc | apply IsS71.drewN | apply IsS71.drew) | exact HI0.out)); (case side2 => repeat (first | (with_reducible first | exact HB.out | apply below_alloc | apply pw_below_drewN | apply below_drew1 | refine below_set ?_ (IsS71.ge HI0.out)) | exact HB.out)); (case side3 => exact Go.Proofs.Ytpojfebecmjloaa.Opq.C_nil); (case side4 => exact Nat.le_refl _); rintro e w21 ⟨rfl, hi, hb, hk⟩; refine ⟨_, rfl, ?_⟩; have n0_ := Aside0.mk (Go.Proofs.Ytpojfebecmjloaa.Opq.R_keep (by (with_reducible repeat (first | apply Kd.R_alloc | apply Kd.R_drewN | apply Kd.R_drew)); exact HO110.out) hk (by decide)); have n1_ := Aside0.mk (Go.Proofs.Ytpojfebecmjloaa.Opq.KeepO.trans (by repeat (first | (with_reducible first | exact HK.out | apply Go.Proofs.Ytpojfebecmjloaa.Opq.KeepO.drewN | apply Go.Proofs.Ytpojfebecmjloaa.Opq.KeepO.drew | apply Go.Proofs.Ytpojfebecmjloaa.Opq.KeepO.alloc) | exact HK.out)) hk); have n2_ := Aside0.mk (hb); have n3_ := Aside0.mk (hi); clear HO110; clear HK; clear HB; clear HI0; have HO110 := n0_; have HK := n1_; have HB := n2_; have HI0 := n3_; clear n0_ n1_ n2_ n3_; (try clear hb); (try clear hb2); (try clear hk); (try clear hi)))
            go_roundg k1
            case measure => have := HK1.out; omega
            case rel => exact ⟨(true), (wrap64 (x8_1 + 1)), (t115), (by first | rfl | (simp; done) | (simp [*]; done)), (by first | rfl | (simp; done) | (simp [*]; done)), H', ⟨by have := HK1.out; omega⟩, ⟨by repeat (first | (with_reducible first | exact HI0.out | apply IsS71.alloc | apply IsS71.drewN | apply IsS71.drew) | exact HI0.out)⟩, ⟨by repeat (first | (with_reducible first | exact HK.out | apply Go.Proofs.Ytpojfebecmjloaa.Opq.KeepO.drewN | apply Go.Proofs.Ytpojfebecmjloaa.Opq.KeepO.drew | apply Go.Proofs.Ytpojfebecmjloaa.Opq.KeepO.alloc) | exact HK.out)⟩, ⟨by repeat (first | (with_reducible first | exact HB.out | apply below_alloc | apply pw_below_drewN | apply below_drew1 | refine below_set ?_ (IsS71.ge HI0.out)) | exact HB.out)⟩⟩
          · rw [if_neg c16] at H
            have c16b0 : (t114 == 0) = false := beq_eq_false_iff_ne.mpr c16
            have c16b1 : (t114 != 0) = true := bne_iff_ne.mpr c16
            simp only [Option.some.injEq, Prod.mk.injEq] at H
            obtain ⟨rfl, rfl⟩ := H
            go_wp2_with (first | ((with_reducible refine gate_callee (f := 22) rfl ?_); refine goesL_ (some 17) rfl rfl Try.func22 (by kernel_rfl) rfl #[.pointer (some ⟨g, 0, none⟩)] rfl (by (try simp only [List.map_toArray, List.map_cons, List.map_nil]); first | done | rfl | (simp only [List.length_drop, List.length_take]; rfl)) ?_; (with_reducible refine (sector_Disk_Len.calls g x1000_1 t104 t105 w0 _ ?side1 ?side2 A5.out).mono ?_); (case side1 => repeat (first | (with_reducible first | exact HI0.out | apply IsS71.alloc | apply IsS71.drewN | apply IsS71.drew) | exact HI0.out)); (case side2 => repeat (first | (with_reducible first | exact HB.out | apply below_alloc | apply pw_below_drewN | apply below_drew1 | refine below_set ?_ (IsS71.ge HI0.out)) | exact HB.out)); rintro e w22 ⟨rfl, hi, hb, hk⟩; refine ⟨_, rfl, ?_⟩; have n0_ := Aside0.mk (Go.Proofs.Ytpojfebecmjloaa.Opq.KeepO.trans (by repeat (first | (with_reducible first | exact HK.out | apply Go.Proofs.Ytpojfebecmjloaa.Opq.KeepO.drewN | apply Go.Proofs.Ytpojfebecmjloaa.Opq.KeepO.drew | apply Go.Proofs.Ytpojfebecmjloaa.Opq.KeepO.alloc) | exact HK.out)) hk); have n1_ := Aside0.mk (hb); have n2_ := Aside0.mk (hi); clear HK; clear HB; clear HI0; have HK := n0_; have HB := n1_; have HI0 := n2_; clear n0_ n1_ n2_; (try clear hb); (try clear hb2); (try clear hk); (try clear hi)) | ((with_reducible refine gate_callee (f := 16) rfl ?_); refine goesL_ (some 25) rfl rfl Try.func16 (by kernel_rfl) rfl #[.pointer (some ⟨g, 0, none⟩), .int .i64 x8_1] rfl (by (try simp only [List.map_toArray, List.map_cons, List.map_nil]); first | done | rfl | (simp only [List.length_drop, List.length_take]; rfl)) ?_; (with_reducible refine (sector_Disk_Read.calls g t105 x8_1 t108 t111 t112 w0 _ ?side1 ?side2 A8.out).mono ?_); (case side1 => repeat (first | (with_reducible first | exact HI0.out | apply IsS71.alloc | apply IsS71.drewN | apply IsS71.drew) | exact HI0.out)); (case side2 => repeat (first | (with_reducible first | exact HB.out | apply below_alloc | apply pw_below_drewN | apply below_drew1 | refine below_set ?_ (IsS71.ge HI0.out)) | exact HB.out)); rintro e w23 ⟨v109, rfl, ho0, hi, hb, hk⟩; refine ⟨_, rfl, ?_⟩; have n0_ := Aside0.mk (Kd.R_lower ho0 (Go.Proofs.Ytpojfebecmjloaa.Opq.KeepO.size (by repeat (first | (with_reducible first | exact HK.out | apply Go.Proofs.Ytpojfebecmjloaa.Opq.KeepO.drewN | apply Go.Proofs.Ytpojfebecmjloaa.Opq.KeepO.drew | apply Go.Proofs.Ytpojfebecmjloaa.Opq.KeepO.alloc) | exact HK.out)))); have n1_ := Aside0.mk (Go.Proofs.Ytpojfebecmjloaa.Opq.KeepO.trans (by repeat (first | (with_reducible first | exact HK.out | apply Go.Proofs.Ytpojfebecmjloaa.Opq.KeepO.drewN | apply Go.Proofs.Ytpojfebecmjloaa.Opq.KeepO.drew | apply Go.Proofs.Ytpojfebecmjloaa.Opq.KeepO.alloc) | exact HK.out)) hk); have n2_ := Aside0.mk (hb); have n3_ := Aside0.mk (hi); clear HK; clear HB; clear HI0; have HO110 := n0_; have HK := n1_; have HB := n2_; have HI0 := n3_; clear n0_ n1_ n2_ n3_; (try clear hb); (try clear hb2); (try clear hk); (try clear hi); (try clear ho0); obtain ⟨Ao24, co24, eo24⟩ := Kd.R_slice HO110.out; subst eo24) | ((with_reducible refine gate_callee (f := 46) rfl ?_); refine goesL_ (some 29) rfl rfl Try.func46 (by kernel_rfl) rfl #[.slice Ao24 t108.length co24] rfl (by (try simp only [List.map_toArray, List.map_cons, List.map_nil]); first | done | rfl | (simp only [List.length_drop, List.length_take]; rfl)) ?_; (with_reducible refine (region_zero.calls _ _ t108 false _ ?side1 ?side2 A9.out).mono ?_); (case side1 => repeat (first | exact (Kd.R_reads' HO110.out).2.2 | (with_reducible refine Kd.C_alloc ?_ _) | (with_reducible refine Kd.C_drewN ?_ _) | (with_reducible refine Kd.C_drew ?_))); (case side2 => exact (Kd.R_reads' HO110.out).2.1); rintro e w25 ⟨rfl, hb⟩; refine ⟨_, rfl, ?_⟩; have n0_ := Aside0.mk (Kd.R_below (by (with_reducible repeat (first | apply Kd.R_alloc | apply Kd.R_drewN | apply Kd.R_drew)); exact HO110.out) hb); have n1_ := Aside0.mk (IsS71.below (by repeat (first | (with_reducible first | exact HI0.out | apply IsS71.alloc | apply IsS71.drewN | apply IsS71.drew) | exact HI0.out)) hb); have n2_ := Aside0.mk (Go.Proofs.Ytpojfebecmjloaa.Opq.KeepO.trans (by repeat (first | (with_reducible first | exact HK.out | apply Go.Proofs.Ytpojfebecmjloaa.Opq.KeepO.drewN | apply Go.Proofs.Ytpojfebecmjloaa.Opq.KeepO.drew | apply Go.Proofs.Ytpojfebecmjloaa.Opq.KeepO.alloc) | exact HK.out)) (Go.Proofs.Ytpojfebecmjloaa.Opq.KeepO.of_below hb)); have n3_ := Aside0.mk (below_step (by repeat (first | (with_reducible first | exact HB.out | apply below_alloc | apply pw_below_drewN | apply below_drew1 | refine below_set ?_ (IsS71.ge HI0.out)) | exact HB.out)) hb); clear HO110; clear HI0; clear HK; clear HB; have HO110 := n0_; have HI0 := n1_; have HK := n2_; have HB := n3_; clear n0_ n1_ n2_ n3_; (try clear hb); (try clear hb2); (try clear hk); (try clear hi)) | ((with_reducible refine gate_callee (f := 14) rfl ?_); refine goesL_ (some 33) rfl rfl Try.func14 (by kernel_rfl) rfl #[.pointer (some ⟨g, 0, none⟩), .int .i64 x8_1, .slice none 0 0] rfl (by (try simp only [List.map_toArray, List.map_cons, List.map_nil]); first | done | rfl | (simp only [List.length_drop, List.length_take]; rfl)) ?_; (refine (sector_Disk_Write.calls g t112 x8_1 _ _ ([] : List Int) t114 t115 w0 _ ?side1 ?side2 ?side3 ?side4 A15.out).mono ?_); (case side1 => repeat (first | (with_reducible first | exact HI0.out | apply IsS71.alloc | apply IsS71.drewN | apply IsS71.drew) | exact HI0.out)); (case side2 => repeat (first | (with_reducible first | exact HB.out | apply below_alloc | apply pw_below_drewN | apply below_drew1 | refine below_set ?_ (IsS71.ge HI0.out)) | exact HB.out)); (case side3 => exact Go.Proofs.Ytpojfebecmjloaa.Opq.C_nil); (case side4 => exact Nat.le_refl _); rintro e w26 ⟨rfl, hi, hb, hk⟩; refine ⟨_, rfl, ?_⟩; have n0_ := Aside0.mk (Go.Proofs.Ytpojfebecmjloaa.Opq.R_keep (by (with_reducible repeat (first | apply Kd.R_alloc | apply Kd.R_drewN | apply Kd.R_drew)); exact HO110.out) hk (by decide)); have n1_ := Aside0.mk (Go.Proofs.Ytpojfebecmjloaa.Opq.KeepO.trans (by repeat (first | (with_reducible first | exact HK.out | apply Go.Proofs.Ytpojfebecmjloaa.Opq.KeepO.drewN | apply Go.Proofs.Ytpojfebecmjloaa.Opq.KeepO.drew | apply Go.Proofs.Ytpojfebecmjloaa.Opq.KeepO.alloc) | exact HK.out)) hk); have n2_ := Aside0.mk (hb); have n3_ := Aside0.mk (hi); clear HO110; clear HK; clear HB; clear HI0; have HO110 := n0_; have HK := n1_; have HB := n2_; have HI0 := n3_; clear n0_ n1_ n2_ n3_; (try clear hb); (try clear hb2); (try clear hk); (try clear hi)))
            go_ret
            exact ⟨by first | rfl | (simp [errW_none, errW_some] <;> rfl) | (simp only [← hji4, ← hji6]; first | rfl | (simp [errW_none, errW_some] <;> rfl)) | (simp [*, errW_none, errW_some] <;> rfl), by repeat (first | (with_reducible first | exact HI0.out | apply IsS71.alloc | apply IsS71.drewN | apply IsS71.drew) | exact HI0.out), by repeat (first | (with_reducible first | exact HB.out | apply below_alloc | apply pw_below_drewN | apply below_drew1 | refine below_set ?_ (IsS71.ge HI0.out)) | exact HB.out), by repeat (first | (with_reducible first | exact HK.out | apply Go.Proofs.Ytpojfebecmjloaa.Opq.KeepO.drewN | apply Go.Proofs.Ytpojfebecmjloaa.Opq.KeepO.drew | apply Go.Proofs.Ytpojfebecmjloaa.Opq.KeepO.alloc) | exact HK.out)⟩
      · rw [if_neg c7] at H
        have c7b0 : decide (x8_1 < (ji6)) = false := decide_eq_false c7
        clear c7
        by_cases c27 : x7_1 = true
        · subst c27
          have H1 : ((sector_Disk_Flush.f t105).bind fun bt106 => (some (bt106.1, bt106.2))) = some (r1, r2) := by rw [if_pos rfl] at H; exact H
          clear H
          have H := H1
          clear H1
          replace H := Option.bind_eq_some_iff.mp H
          obtain ⟨⟨t106, t107⟩, A280, H⟩ := H
          replace H : (some (t106, t107)) = some (r1, r2) := H
          have A28 := Aside0.mk A280
          clear A280
          simp only [Option.some.injEq, Prod.mk.injEq] at H
          obtain ⟨rfl, rfl⟩ := H
          go_wp2_with (first | ((with_reducible refine gate_callee (f := 22) rfl ?_); refine goesL_ (some 17) rfl rfl Try.func22 (by kernel_rfl) rfl #[.pointer (some ⟨g, 0, none⟩)] rfl (by (try simp only [List.map_toArray, List.map_cons, List.map_nil]); first | done | rfl | (simp only [List.length_drop, List.length_take]; rfl)) ?_; (with_reducible refine (sector_Disk_Len.calls g x1000_1 t104 t105 w0 _ ?side1 ?side2 A5.out).mono ?_); (case side1 => repeat (first | (with_reducible first | exact HI0.out | apply IsS71.alloc | apply IsS71.drewN | apply IsS71.drew) | exact HI0.out)); (case side2 => repeat (first | (with_reducible first | exact HB.out | apply below_alloc | apply pw_below_drewN | apply below_drew1 | refine below_set ?_ (IsS71.ge HI0.out)) | exact HB.out)); rintro e w29 ⟨rfl, hi, hb, hk⟩; refine ⟨_, rfl, ?_⟩; have n0_ := Aside0.mk (Go.Proofs.Ytpojfebecmjloaa.Opq.KeepO.trans (by repeat (first | (with_reducible first | exact HK.out | apply Go.Proofs.Ytpojfebecmjloaa.Opq.KeepO.drewN | apply Go.Proofs.Ytpojfebecmjloaa.Opq.KeepO.drew | apply Go.Proofs.Ytpojfebecmjloaa.Opq.KeepO.alloc) | exact HK.out)) hk); have n1_ := Aside0.mk (hb); have n2_ := Aside0.mk (hi); clear HK; clear HB; clear HI0; have HK := n0_; have HB := n1_; have HI0 := n2_; clear n0_ n1_ n2_; (try clear hb); (try clear hb2); (try clear hk); (try clear hi)) | ((with_reducible refine gate_callee (f := 21) rfl ?_); refine goesL_ (some 40) rfl rfl Try.func21 (by kernel_rfl) rfl #[.pointer (some ⟨g, 0, none⟩)] rfl (by (try simp only [List.map_toArray, List.map_cons, List.map_nil]); first | done | rfl | (simp only [List.length_drop, List.length_take]; rfl)) ?_; (with_reducible refine (sector_Disk_Flush.calls g t105 t106 t107 w0 _ ?side1 ?side2 A28.out).mono ?_); (case side1 => repeat (first | (with_reducible first | exact HI0.out | apply IsS71.alloc | apply IsS71.drewN | apply IsS71.drew) | exact HI0.out)); (case side2 => repeat (first | (with_reducible first | exact HB.out | apply below_alloc | apply pw_below_drewN | apply below_drew1 | refine below_set ?_ (IsS71.ge HI0.out)) | exact HB.out)); rintro e w30 ⟨rfl, hi, hb, hk⟩; refine ⟨_, rfl, ?_⟩; have n0_ := Aside0.mk (Go.Proofs.Ytpojfebecmjloaa.Opq.KeepO.trans (by repeat (first | (with_reducible first | exact HK.out | apply Go.Proofs.Ytpojfebecmjloaa.Opq.KeepO.drewN | apply Go.Proofs.Ytpojfebecmjloaa.Opq.KeepO.drew | apply Go.Proofs.Ytpojfebecmjloaa.Opq.KeepO.alloc) | exact HK.out)) hk); have n1_ := Aside0.mk (hb); have n2_ := Aside0.mk (hi); clear HK; clear HB; clear HI0; have HK := n0_; have HB := n1_; have HI0 := n2_; clear n0_ n1_ n2_; (try clear hb); (try clear hb2); (try clear hk); (try clear hi)))
          go_ret
          exact ⟨by first | rfl | (simp [errW_none, errW_some] <;> rfl) | (simp only [← hji4, ← hji6]; first | rfl | (simp [errW_none, errW_some] <;> rfl)) | (simp [*, errW_none, errW_some] <;> rfl), by repeat (first | (with_reducible first | exact HI0.out | apply IsS71.alloc | apply IsS71.drewN | apply IsS71.drew) | exact HI0.out), by repeat (first | (with_reducible first | exact HB.out | apply below_alloc | apply pw_below_drewN | apply below_drew1 | refine below_set ?_ (IsS71.ge HI0.out)) | exact HB.out), by repeat (first | (with_reducible first | exact HK.out | apply Go.Proofs.Ytpojfebecmjloaa.Opq.KeepO.drewN | apply Go.Proofs.Ytpojfebecmjloaa.Opq.KeepO.drew | apply Go.Proofs.Ytpojfebecmjloaa.Opq.KeepO.alloc) | exact HK.out)⟩
        · replace c27 := Bool.eq_false_iff.mpr c27
          subst c27
          have H1 : (some (0, t105)) = some (r1, r2) := by rw [if_neg (show ¬ (false = true) by decide)] at H; exact H
          clear H
          have H := H1
          clear H1
          simp only [Option.some.injEq, Prod.mk.injEq] at H
          obtain ⟨rfl, rfl⟩ := H
          go_wp2_with (first | ((with_reducible refine gate_callee (f := 22) rfl ?_); refine goesL_ (some 17) rfl rfl Try.func22 (by kernel_rfl) rfl #[.pointer (some ⟨g, 0, none⟩)] rfl (by (try simp only [List.map_toArray, List.map_cons, List.map_nil]); first | done | rfl | (simp only [List.length_drop, List.length_take]; rfl)) ?_; (with_reducible refine (sector_Disk_Len.calls g x1000_1 t104 t105 w0 _ ?side1 ?side2 A5.out).mono ?_); (case side1 => repeat (first | (with_reducible first | exact HI0.out | apply IsS71.alloc | apply IsS71.drewN | apply IsS71.drew) | exact HI0.out)); (case side2 => repeat (first | (with_reducible first | exact HB.out | apply below_alloc | apply pw_below_drewN | apply below_drew1 | refine below_set ?_ (IsS71.ge HI0.out)) | exact HB.out)); rintro e w31 ⟨rfl, hi, hb, hk⟩; refine ⟨_, rfl, ?_⟩; have n0_ := Aside0.mk (Go.Proofs.Ytpojfebecmjloaa.Opq.KeepO.trans (by repeat (first | (with_reducible first | exact HK.out | apply Go.Proofs.Ytpojfebecmjloaa.Opq.KeepO.drewN | apply Go.Proofs.Ytpojfebecmjloaa.Opq.KeepO.drew | apply Go.Proofs.Ytpojfebecmjloaa.Opq.KeepO.alloc) | exact HK.out)) hk); have n1_ := Aside0.mk (hb); have n2_ := Aside0.mk (hi); clear HK; clear HB; clear HI0; have HK := n0_; have HB := n1_; have HI0 := n2_; clear n0_ n1_ n2_; (try clear hb); (try clear hb2); (try clear hk); (try clear hi)))
          go_ret
          exact ⟨by first | rfl | (simp [errW_none, errW_some] <;> rfl) | (simp only [← hji4, ← hji6]; first | rfl | (simp [errW_none, errW_some] <;> rfl)) | (simp [*, errW_none, errW_some] <;> rfl), by repeat (first | (with_reducible first | exact HI0.out | apply IsS71.alloc | apply IsS71.drewN | apply IsS71.drew) | exact HI0.out), by repeat (first | (with_reducible first | exact HB.out | apply below_alloc | apply pw_below_drewN | apply below_drew1 | refine below_set ?_ (IsS71.ge HI0.out)) | exact HB.out), by repeat (first | (with_reducible first | exact HK.out | apply Go.Proofs.Ytpojfebecmjloaa.Opq.KeepO.drewN | apply Go.Proofs.Ytpojfebecmjloaa.Opq.KeepO.drew | apply Go.Proofs.Ytpojfebecmjloaa.Opq.KeepO.alloc) | exact HK.out)⟩

/-! ### region_Size: function 45 -/
def region_Size.f (a0 : Int) : Option (Int) := some (wrap64 (1 + (wrap64 (Int.tdiv (wrap64 ((wrap64 ((mx a0 0) + 64)) - 1)) 64))))
set_option maxHeartbeats 8000000 in
set_option maxRecDepth 100000 in
theorem region_Size.calls (a0 : Int) (r : Int) (w : World) (h : region_Size.f a0 = some r) :
    Calls Try.prog 45 #[.int .i64 a0] w fun e w' => e = .returned (.int .i64 r) ∧ Below w.heap.size w w' := by
  have HB := Aside0.mk (Below.refl w.heap.size w)
  have H : (some (wrap64 (1 + (wrap64 (Int.tdiv (wrap64 ((wrap64 ((mx a0 0) + 64)) - 1)) 64))))) = some r := h
  clear h
  obtain ⟨ji2, hji2⟩ : ∃ j_ : Int, (mx a0 0) = j_ := ⟨_, rfl⟩
  replace H : (some (wrap64 (1 + (wrap64 (Int.tdiv (wrap64 ((wrap64 ((ji2) + 64)) - 1)) 64))))) = some r := by first | (rw [hji2] at H; exact H) | (simp only [hji2] at H ⊢; exact H)
  (try (have hji2l : 0 ≤ ji2 := by (rw [← hji2]; unfold mx; (repeat' split) <;> omega)))
  (try (have hji2m : 0 ≤ ji2 := by omega))
  have hji2_ : (if a0 < 0 then 0 else a0) = ji2 := hji2
  obtain rfl := Option.some.inj H
  go_enter Try.func45, Try.ntmps45
  go_wp2
  go_ret
  exact ⟨by first | rfl | (simp [errW_none, errW_some] <;> rfl) | (simp only [← hji2]; first | rfl | (simp [errW_none, errW_some] <;> rfl)) | (simp [*, errW_none, errW_some] <;> rfl), by repeat (first | (with_reducible first | exact HB.out | apply below_alloc | apply pw_below_drewN | apply below_drew1) | exact HB.out)⟩

/-! ### region_Put: function 65 -/
def region_Put.f (l0 : List Int) (a1 : Int) : Option (List Int) := (some (([(a1 / 16777216) % 256, (a1 / 65536) % 256, (a1 / 256) % 256, (a1) % 256] : List Int) : List Int)).bind fun y116 => (if l0.length + y116.length < 140737488355328 then (some (l0 ++ y116)) else (none))
set_option maxHeartbeats 8000000 in
set_option maxRecDepth 100000 in
theorem region_Put.calls (P0_ : Nat → Prop) (u9000_ : Value) (l0 : List Int) (a1 : Int) (r : List Int) (w0 w : World) (hB : Below w0.heap.size w0 w) (ho0 : Kd.R (Kd.int .u8) 5 w w0.heap.size P0_ u9000_ l0) (h : region_Put.f l0 a1 = some r) :
    Calls Try.prog 65 #[u9000_, .int .u32 a1] w fun e w' => ∃ v0_ : Value, e = .returned (v0_) ∧ Kd.R (Kd.int .u8) 5 w' w0.heap.size (fun k_ => (P0_ k_ ∨ w.heap.size ≤ k_)) v0_ r ∧ Below w0.heap.size w0 w' ∧ Kept w w' (fun k_ => P0_ k_) := by
  have HO0 := Aside0.mk (show Kd.R (Kd.int .u8) 5 w w0.heap.size (fun k_ => (P0_ k_ ∨ w.heap.size ≤ k_)) u9000_ l0 from Kd.R_mono ho0 (fun k_ hk => (.inl hk)))
  have HK := Aside0.mk (Kept.refl w (fun k_ => P0_ k_))
  have HW0 := Aside0.mk hB.size
  have HB := Aside0.mk hB
  clear hB
  have H : ((some (([(a1 / 16777216) % 256, (a1 / 65536) % 256, (a1 / 256) % 256, (a1) % 256] : List Int) : List Int)).bind fun y116 => (if l0.length + y116.length < 140737488355328 then (some (l0 ++ y116)) else (none))) = some r := h
  clear h
  obtain ⟨y116, hy116⟩ : ∃ y_ : List Int, y_ = (([(a1 / 16777216) % 256, (a1 / 65536) % 256, (a1 / 256) % 256, (a1) % 256] : List Int)) := ⟨_, rfl⟩
  replace H : (if l0.length + y116.length < 140737488355328 then (some (l0 ++ y116)) else (none)) = some r := by first | (rw [hy116]; with_reducible exact H) | (have H2_ := (Option.bind_some _ _).symm.trans H; rw [hy116]; with_reducible exact H2_) | (have H2_ := (Option.bind_some _ _).symm.trans H; with_reducible exact H2_) | with_reducible exact H | (rw [hy116]; exact H) | exact H
  have Ny116 := Aside0.mk hy116
  clear hy116
  by_cases c3 : l0.length + y116.length < 140737488355328
  · rw [if_pos c3] at H
    have LMc3 := Aside0.mk c3
    clear c3
    obtain ⟨y119, hy119⟩ : ∃ y_ : List Int, y_ = (l0 ++ y116) := ⟨_, rfl⟩
    replace H : (some y119) = some r := by first | (rw [hy119]; with_reducible exact H) | (have H2_ := (Option.bind_some _ _).symm.trans H; rw [hy119]; with_reducible exact H2_) | (have H2_ := (Option.bind_some _ _).symm.trans H; with_reducible exact H2_) | with_reducible exact H | (rw [hy119]; exact H) | exact H
    have Ny119 := Aside0.mk hy119
    clear hy119
    obtain rfl := Option.some.inj H
    go_enter Try.func65, Try.ntmps65
    go_wp2_with (first | ((with_reducible refine gate_dst (N := 17) rfl ?_); refine Kd.R_lit (Kd.int .u8) _ 5 ?hg (N := 17) ?hd (xs := ([(a1 / 16777216) % 256, (a1 / 65536) % 256, (a1 / 256) % 256, (a1) % 256] : List Int)) (inner := [.int .u8 ((a1 / 16777216) % 256), .int .u8 ((a1 / 65536) % 256), .int .u8 ((a1 / 256) % 256), .int .u8 ((a1) % 256)]) (ok := fun _ => True) (okp := fun _ => True) ?hr ?hp (fun _ hk => hk) trivial (Below.refl _ _) (Nat.le_refl _) (by simp) ?_; (case hd => rfl); (case hg => rfl); (case hr => first | (go_simp; done) | (go_simp; rfl) | (go_simp; simp [IntKind.wrap_u8, IntKind.wrap_u32]; done)); (case hp => exact (Reps.one (show Kd.M (Kd.int .u8) _ _ _ ((a1 / 16777216) % 256) [.int .u8 ((a1 / 16777216) % 256)] from rfl) (Reps.one (show Kd.M (Kd.int .u8) _ _ _ ((a1 / 65536) % 256) [.int .u8 ((a1 / 65536) % 256)] from rfl) (Reps.one (show Kd.M (Kd.int .u8) _ _ _ ((a1 / 256) % 256) [.int .u8 ((a1 / 256) % 256)] from rfl) (Reps.one (show Kd.M (Kd.int .u8) _ _ _ ((a1) % 256) [.int .u8 ((a1) % 256)] from rfl) (Reps.none _ _)))))); intro v117 w4 ho5 hb hg_ hnew_; clear hg_ hnew_; (first | rw [← Ny116.out] at ho5 | (simp only [Int.reduceToNat] at ho5; rw [← Ny116.out] at ho5)); have n0_ := Aside0.mk (Kd.R_elder' (by (with_reducible repeat (first | apply Kd.R_alloc | apply Kd.R_drewN | apply Kd.R_drew)); exact HO0.out) (Kd.R_base ho5) hb); have n1_ := Aside0.mk (Kd.R_lower (Kd.R_new' (Kd.R_newM (M := fun k_ => (P0_ k_ ∨ w.heap.size ≤ k_)) ho5 (by first | exact HK.out.1 | exact (show Kept w _ (fun k_ => P0_ k_) from by repeat (first | (with_reducible first | exact HK.out | apply Kept.alloc | apply Kept.drewN | apply Kept.drew) | exact HK.out)).1) (fun k_ h_ => .inr h_)) (Kd.R_lt (by (with_reducible repeat (first | apply Kd.R_alloc | apply Kd.R_drewN | apply Kd.R_drew)); exact HO0.out))) (below_size (by repeat (first | (with_reducible first | exact HB.out | apply below_alloc | apply pw_below_drewN | apply below_drew1) | exact HB.out)))); have n2_ := Aside0.mk (Kept.below (S := (fun k_ => P0_ k_)) (by repeat (first | (with_reducible first | exact HK.out | apply Kept.alloc | apply Kept.drewN | apply Kept.drew) | exact HK.out)) hb); have n3_ := Aside0.mk (below_step (by repeat (first | (with_reducible first | exact HB.out | apply below_alloc | apply pw_below_drewN | apply below_drew1) | exact HB.out)) hb); clear HO0; clear HK; clear HB; have HO0 := n0_; have HO118 := n1_; have HK := n2_; have HB := n3_; clear n0_ n1_ n2_ n3_; clear hb ho5; obtain ⟨Ao7, co7, eo7⟩ := Kd.R_slice HO118.out; subst eo7) | ((with_reducible refine gate_builtin (b := .append) (xs := #[.tmp 5, .tmp 17]) rfl ?_); at_builtin; refine Kd.R_append_rows (Kd.int .u8) (w0 := w0) w0.heap.size rfl (.tmp 5) (.tmp 17) 22 5 (.int .u8 0) 1 rfl Try.underlying22 info5 rfl (by decide) (by omega) u9000_ l0 y116 _ _ _ (fun k_ => (P0_ k_ ∨ w.heap.size ≤ k_) ∧ some k_ ≠ (.slice Ao7 y116.length co7 : Value).ownBlock) (fun _ => False) rfl rfl ?aO ?aR (fun _ _ h => h) (fun _ h => h.elim) ?aF ?aB ?aS ?aL ?_; (case aR => repeat (first | exact (Kd.R_reads' HO118.out).2.2 | (with_reducible refine Kd.C_alloc ?_ _) | (with_reducible refine Kd.C_drewN ?_ _) | (with_reducible refine Kd.C_drew ?_))); (case aB => exact (by repeat (first | (with_reducible first | exact HB.out | apply below_alloc | apply pw_below_drewN | apply below_drew1) | exact HB.out))); (case aF => exact (fun k_ hk => ⟨(.inr (Nat.le_trans (by first | exact HK.out.1 | exact (show Kept w _ (fun k_ => P0_ k_) from by repeat (first | (with_reducible first | exact HK.out | apply Kept.alloc | apply Kept.drewN | apply Kept.drew) | exact HK.out)).1) hk)), Kd.fresh' (Kd.R_lt (by (with_reducible repeat (first | apply Kd.R_alloc | apply Kd.R_drewN | apply Kd.R_drew)); exact HO118.out)) k_ hk⟩)); (case aO => exact (by (with_reducible repeat (first | apply Kd.R_alloc | apply Kd.R_drewN | apply Kd.R_drew)); exact HO0.out)); (case aS => exact (below_size (by repeat (first | (with_reducible first | exact HB.out | apply below_alloc | apply pw_below_drewN | apply below_drew1) | exact HB.out)))); (case aL => have := LMc3.out; omega); intro v120 w6 ho hb hg hat; rw [← Ny119.out] at ho; have n0_ := Aside0.mk (Kd.R_after (ok := (fun k_ => (P0_ k_ ∨ w.heap.size ≤ k_))) (by (with_reducible repeat (first | apply Kd.R_alloc | apply Kd.R_drewN | apply Kd.R_drew)); exact Kd.R_mono HO118.out (fun _ hk => ⟨hk.1.1, hk.2⟩)) hg hat); have n1_ := Aside0.mk (hb); have n2_ := Aside0.mk (Kept.of_grown (S := (fun k_ => P0_ k_)) hg (by repeat (first | (with_reducible first | exact HK.out | apply Kept.alloc | apply Kept.drewN | apply Kept.drew) | exact HK.out)) (fun k_ e_ => (HO0.out.1 k_ e_).1)); have n3_ := Aside0.mk (ho); clear HO118; clear HB; clear HK; clear HO0; have HO118 := n0_; have HB := n1_; have HK := n2_; have HO121 := n3_; clear n0_ n1_ n2_ n3_; clear ho hb hg hat))
    go_ret
    exact ⟨_, by first | rfl | (simp [errW_none, errW_some] <;> rfl) | (simp [*, errW_none, errW_some] <;> rfl), by (with_reducible repeat (first | apply Kd.R_alloc | apply Kd.R_drewN | apply Kd.R_drew)); exact Kd.R_mono HO121.out (fun _ hk => hk.1), by repeat (first | (with_reducible first | exact HB.out | apply below_alloc | apply pw_below_drewN | apply below_drew1) | exact HB.out), by repeat (first | (with_reducible first | exact HK.out | apply Kept.alloc | apply Kept.drewN | apply Kept.drew) | exact HK.out)⟩
  · rw [if_neg c3] at H
    exact absurd H (by simp)

/-! ### sum_Of: function 66 -/
mutual
def sum_Of.l0 : Nat → Int → List Int → Int → Int → Option (Int)
  | 0, _, _, _, _ => none
  | k + 1, x3, x7, x8, x9 => if x9 < x8 then (if 0 ≤ x9 then (if x9 < (x7.length : Int) then (sum_Of.l1 k (Go.bits .xor .u32 x3 ((rd x7 x9) % 4294967296)) x7 x8 x9 0) else (none)) else (none)) else (some (Go.bits .xor .u32 4294967295 x3))
def sum_Of.l1 : Nat → Int → List Int → Int → Int → Int → Option (Int)
  | 0, _, _, _, _, _ => none
  | k + 1, x3, x7, x8, x9, x17 => if x17 < 8 then (sum_Of.l1 k (Go.bits .xor .u32 (x3 / 2) ((2197175160 * (Go.bits .and .u32 x3 1)) % 4294967296)) x7 x8 x9 (wrap64 (x17 + 1))) else (sum_Of.l0 k x3 x7 x8 (wrap64 (x9 + 1)))
end
def sum_Of.f (k : Nat) (l0 : List Int) : Option (Int) := sum_Of.l0 k 4294967295 l0 (l0.length : Int) 0
theorem sum_Of.mono_l : ∀ k, (∀ y0 y1 y2 y3, LeO (sum_Of.l0 k y0 y1 y2 y3) (sum_Of.l0 (k + 1) y0 y1 y2 y3)) ∧ (∀ y0 y1 y2 y3 y4, LeO (sum_Of.l1 k y0 y1 y2 y3 y4) (sum_Of.l1 (k + 1) y0 y1 y2 y3 y4))
  | 0 => ⟨fun _ _ _ _ r h => by simp [sum_Of.l0] at h, fun _ _ _ _ _ r h => by simp [sum_Of.l1] at h⟩
  | k + 1 => by
    obtain ⟨ih0, ih1⟩ := sum_Of.mono_l k
    refine ⟨?_, ?_⟩
    · intro y0 y1 y2 y3
      unfold sum_Of.l0
      repeat' first
      | (with_reducible exact ih0 _ _ _ _)
      | (with_reducible exact ih1 _ _ _ _ _)
      | (with_reducible exact LeO.refl _)
      | (with_reducible exact LeO.none _)
      | (with_reducible refine LeO.ite ?_ ?_)
      | (with_reducible refine LeO.bind ?_ (fun _ => ?_))
      | exact ih0 _ _ _ _
      | exact ih1 _ _ _ _ _
      | exact LeO.none _
      | refine LeO.ite ?_ ?_
      | refine LeO.bind ?_ (fun _ => ?_)
    · intro y0 y1 y2 y3 y4
      unfold sum_Of.l1
      repeat' first
      | (with_reducible exact ih0 _ _ _ _)
      | (with_reducible exact ih1 _ _ _ _ _)
      | (with_reducible exact LeO.refl _)
      | (with_reducible exact LeO.none _)
      | (with_reducible refine LeO.ite ?_ ?_)
      | (with_reducible refine LeO.bind ?_ (fun _ => ?_))
      | exact ih0 _ _ _ _
      | exact ih1 _ _ _ _ _
      | exact LeO.none _
      | refine LeO.ite ?_ ?_
      | refine LeO.bind ?_ (fun _ => ?_)
theorem sum_Of.mono : ∀ a0 k, LeO (sum_Of.f k a0) (sum_Of.f (k + 1) a0) := by
  intro a0 k
  obtain ⟨ih0, ih1⟩ := sum_Of.mono_l k
  unfold sum_Of.f
  repeat' first
      | (with_reducible exact ih0 _ _ _ _)
      | (with_reducible exact ih1 _ _ _ _ _)
      | (with_reducible exact LeO.refl _)
      | (with_reducible exact LeO.none _)
      | (with_reducible refine LeO.ite ?_ ?_)
      | (with_reducible refine LeO.bind ?_ (fun _ => ?_))
      | exact ih0 _ _ _ _
      | exact ih1 _ _ _ _ _
      | exact LeO.none _
      | refine LeO.ite ?_ ?_
      | refine LeO.bind ?_ (fun _ => ?_)
set_option maxHeartbeats 8000000 in
set_option maxRecDepth 100000 in
theorem sum_Of.calls (k : Nat) (A0 : Option Addr) (c0 : Nat) (l0 : List Int) (r : Int) (w : World) (hr0 : Kd.C (Kd.int .u8) w A0 l0.length l0) (hc0 : l0.length ≤ c0) (h : sum_Of.f k l0 = some r) :
    Calls Try.prog 66 #[.slice A0 l0.length c0] w fun e w' => e = .returned (.int .u32 r) ∧ Drawn0 w w' := by
  have HR0 := Aside0.mk hr0
  have HC0 := Aside0.mk hc0
  clear hr0 hc0
  have H : (sum_Of.l0 k 4294967295 l0 (l0.length : Int) 0) = some r := h
  clear h
  have H' := Aside0.mk H
  clear H
  go_enter Try.func66, Try.ntmps66
  go_wp2
  go_loopg [3, 9] k (fun kq v3 v9 w' => ∃ (x3_1 : Int) (x9_1 : Int), v3 = .int .u32 x3_1 ∧ v9 = .int .i64 x9_1 ∧ Aside0 (sum_Of.l0 kq x3_1 l0 (l0.length : Int) x9_1 = some r) ∧ Aside0 (kq ≤ k) ∧ Drawn0 w w')
  case atStart => exact ⟨(4294967295), (0), (by first | rfl | (simp; done) | (simp [*]; done)), (by first | rfl | (simp; done) | (simp [*]; done)), H', ⟨Nat.le_refl _⟩, by repeat (first | exact Drawn0.refl _ | apply Drawn0.step)⟩
  case round =>
    clear H'
    obtain ⟨x3_1, x9_1, rfl, rfl, HA, HK1, ⟨m1, rfl⟩⟩ := hrel
    cases gk with
    | zero => exact absurd HA.out (by simp [sum_Of.l0])
    | succ k1 =>
      have H := HA.out
      clear HA
      simp only [sum_Of.l0] at H
      by_cases c2 : x9_1 < (l0.length : Int)
      · rw [if_pos c2] at H
        have c2b0 : decide (x9_1 < (l0.length : Int)) = true := decide_eq_true c2
        clear c2
        by_cases c3 : 0 ≤ x9_1
        · rw [if_pos c3] at H
          have c3b0 : decide (0 ≤ x9_1) = true := decide_eq_true c3
          clear c3
          by_cases c4 : x9_1 < (l0.length : Int)
          · rw [if_pos c4] at H
            have c4b0 : decide (x9_1 < (l0.length : Int)) = true := decide_eq_true c4
            clear c4
            have H' := Aside0.mk H
            clear H
            have p122 : 0 ≤ (x9_1 : Int) := of_decide_eq_true (by first | (with_reducible assumption) | assumption)
            have q122 : x9_1 < (l0.length : Int) := of_decide_eq_true (by first | (with_reducible assumption) | assumption)
            obtain ⟨ad122, e122, hx122_0⟩ := Kd.at_int HR0.out x9_1 p122 q122
            cases e122
            replace p122 := eq_true p122
            replace q122 := eq_true q122
            go_wp2
            go_loopg [3, 17] k1 (fun kq v3 v17 w' => ∃ (x3_2 : Int) (x17_2 : Int), v3 = .int .u32 x3_2 ∧ v17 = .int .i64 x17_2 ∧ Aside0 (sum_Of.l1 kq x3_2 l0 (l0.length : Int) x9_1 x17_2 = some r) ∧ Aside0 (kq ≤ k1) ∧ Drawn0 w w')
            case atStart => exact ⟨(Go.bits .xor .u32 x3_1 ((rd l0 x9_1) % 4294967296)), (0), (by first | rfl | (simp; done) | (simp [*]; done)), (by first | rfl | (simp; done) | (simp [*]; done)), H', ⟨Nat.le_refl _⟩, by repeat (first | exact Drawn0.refl _ | apply Drawn0.step)⟩
            case round =>
              clear H'
              try clear p1
              try clear q1
              try clear hx1
              try clear c2
              try clear c2b0
              try clear p2
              try clear c3
              try clear c3b0
              try clear c4
              try clear c4b0
              try clear hx122_0
              try clear p122
              try clear q122
              obtain ⟨x3_2, x17_2, rfl, rfl, HA, HK2, ⟨m2, rfl⟩⟩ := hrel
              cases gk with
              | zero => exact absurd HA.out (by simp [sum_Of.l1])
              | succ k2 =>
                have H := HA.out
                clear HA
                simp only [sum_Of.l1] at H
                by_cases c5 : x17_2 < 8
                · rw [if_pos c5] at H
                  have c5b0 : decide (x17_2 < 8) = true := decide_eq_true c5
                  clear c5
                  have H' := Aside0.mk H
                  clear H
                  go_wp2
                  go_roundg k2
                  case measure => have := HK1.out; have := HK2.out; omega
                  case rel => exact ⟨(Go.bits .xor .u32 (x3_2 / 2) ((2197175160 * (Go.bits .and .u32 x3_2 1)) % 4294967296)), (wrap64 (x17_2 + 1)), (by first | rfl | (simp; done) | (simp [*]; done)), (by first | rfl | (simp; done) | (simp [*]; done)), H', ⟨by have := HK1.out; have := HK2.out; omega⟩, by repeat (first | exact Drawn0.refl _ | apply Drawn0.step)⟩
                · rw [if_neg c5] at H
                  have c5b0 : decide (x17_2 < 8) = false := decide_eq_false c5
                  clear c5
                  have H' := Aside0.mk H
                  clear H
                  go_wp2
                  go_roundg k2
                  case measure => have := HK1.out; have := HK2.out; omega
                  case rel => exact ⟨(x3_2), (wrap64 (x9_1 + 1)), (by first | rfl | (simp; done) | (simp [*]; done)), (by first | rfl | (simp; done) | (simp [*]; done)), H', ⟨by have := HK1.out; have := HK2.out; omega⟩, by repeat (first | exact Drawn0.refl _ | apply Drawn0.step)⟩
          · rw [if_neg c4] at H
            exact absurd H (by simp)
        · rw [if_neg c3] at H
          exact absurd H (by simp)
      · rw [if_neg c2] at H
        have c2b0 : decide (x9_1 < (l0.length : Int)) = false := decide_eq_false c2
        clear c2
        obtain rfl := Option.some.inj H
        go_wp2
        go_ret
        exact ⟨by first | rfl | (simp; done) | (simp [*]; done), by repeat (first | exact Drawn0.refl _ | apply Drawn0.step)⟩

/-! ### region_first: function 47 -/
def region_first.f (k : Nat) (a0 : Int) (l1 : List Int) : Option (List Int) := (region_Put.f ([] : List Int) ((a0) % 4294967296)).bind fun t123 => ((region_Put.f t123 (((l1.length : Int)) % 4294967296)).bind fun t126 => ((sum_Of.f k l1).bind fun t129 => ((region_Put.f t126 t129).bind fun t130 => ((sum_Of.f k t130).bind fun t133 => ((region_Put.f t130 t133).bind fun t134 => (some t134))))))
theorem region_first.mono : ∀ a0 a1 k, LeO (region_first.f k a0 a1) (region_first.f (k + 1) a0 a1) := by
  intro a0 a1 k
  unfold region_first.f
  repeat' first
      | (with_reducible exact sum_Of.mono _ _)
      | (with_reducible exact LeO.refl _)
      | (with_reducible exact LeO.none _)
      | (with_reducible refine LeO.ite ?_ ?_)
      | (with_reducible refine LeO.bind ?_ (fun _ => ?_))
      | exact sum_Of.mono _ _
      | exact LeO.none _
      | refine LeO.ite ?_ ?_
      | refine LeO.bind ?_ (fun _ => ?_)
set_option maxHeartbeats 8000000 in
set_option maxRecDepth 100000 in
theorem region_first.calls (k : Nat) (a0 : Int) (A1 : Option Addr) (c1 : Nat) (l1 : List Int) (r : List Int) (w : World) (hr1 : Kd.C (Kd.int .u8) w A1 l1.length l1) (hc1 : l1.length ≤ c1) (h : region_first.f k a0 l1 = some r) :
    Calls Try.prog 47 #[.int .i64 a0, .slice A1 l1.length c1] w fun e w' => ∃ v0_ : Value, e = .returned (v0_) ∧ Kd.R (Kd.int .u8) 5 w' w.heap.size (fun _ => True) v0_ r ∧ Below w.heap.size w w' := by
  have HR1 := Aside0.mk hr1
  have HC1 := Aside0.mk hc1
  clear hr1 hc1
  have HB := Aside0.mk (Below.refl w.heap.size w)
  have H : ((region_Put.f ([] : List Int) ((a0) % 4294967296)).bind fun t123 => ((region_Put.f t123 (((l1.length : Int)) % 4294967296)).bind fun t126 => ((sum_Of.f k l1).bind fun t129 => ((region_Put.f t126 t129).bind fun t130 => ((sum_Of.f k t130).bind fun t133 => ((region_Put.f t130 t133).bind fun t134 => (some t134))))))) = some r := h
  clear h
  replace H := Option.bind_eq_some_iff.mp H
  obtain ⟨t123, A30, H⟩ := H
  replace H : ((region_Put.f t123 (((l1.length : Int)) % 4294967296)).bind fun t126 => ((sum_Of.f k l1).bind fun t129 => ((region_Put.f t126 t129).bind fun t130 => ((sum_Of.f k t130).bind fun t133 => ((region_Put.f t130 t133).bind fun t134 => (some t134)))))) = some r := H
  have A3 := Aside0.mk A30
  clear A30
  replace H := Option.bind_eq_some_iff.mp H
  obtain ⟨t126, A40, H⟩ := H
  replace H : ((sum_Of.f k l1).bind fun t129 => ((region_Put.f t126 t129).bind fun t130 => ((sum_Of.f k t130).bind fun t133 => ((region_Put.f t130 t133).bind fun t134 => (some t134))))) = some r := H
  have A4 := Aside0.mk A40
  clear A40
  replace H := Option.bind_eq_some_iff.mp H
  obtain ⟨t129, A50, H⟩ := H
  replace H : ((region_Put.f t126 t129).bind fun t130 => ((sum_Of.f k t130).bind fun t133 => ((region_Put.f t130 t133).bind fun t134 => (some t134)))) = some r := H
  have A5 := Aside0.mk A50
  clear A50
  replace H := Option.bind_eq_some_iff.mp H
  obtain ⟨t130, A60, H⟩ := H
  replace H : ((sum_Of.f k t130).bind fun t133 => ((region_Put.f t130 t133).bind fun t134 => (some t134))) = some r := H
  have A6 := Aside0.mk A60
  clear A60
  replace H := Option.bind_eq_some_iff.mp H
  obtain ⟨t133, A70, H⟩ := H
  replace H : ((region_Put.f t130 t133).bind fun t134 => (some t134)) = some r := H
  have A7 := Aside0.mk A70
  clear A70
  replace H := Option.bind_eq_some_iff.mp H
  obtain ⟨t134, A80, H⟩ := H
  replace H : (some t134) = some r := H
  have A8 := Aside0.mk A80
  clear A80
  obtain rfl := Option.some.inj H
  go_enter Try.func47, Try.ntmps47
  go_wp2_with (first | ((with_reducible refine gate_callee (f := 65) rfl ?_); refine goesL_ (some 8) rfl rfl Try.func65 (by kernel_rfl) rfl #[.slice none 0 0, .int .u32 ((a0) % 4294967296)] rfl (by (try simp only [List.map_toArray, List.map_cons, List.map_nil]); first | done | rfl | (simp only [List.length_drop, List.length_take]; rfl)) ?_; (refine (region_Put.calls (fun k_ => some k_ = (.slice none 0 0 : Value).ownBlock) (.slice none 0 0) ([] : List Int) ((a0) % 4294967296) t123 w _ ?side1 ?side2 A3.out).mono ?_); (case side1 => repeat (first | (with_reducible first | exact HB.out | apply below_alloc | apply pw_below_drewN | apply below_drew1) | exact HB.out)); (case side2 => exact Kd.R_nil _ _ _ _ _); rintro e w9 ⟨v124, rfl, ho0, hb, hkp⟩; refine ⟨_, rfl, ?_⟩; have n0_ := Aside0.mk (Kd.R_mono (ok' := fun k_ => True) ho0 (fun k_ hk_ => trivial)); have n1_ := Aside0.mk (hb); clear HB; have HO125 := n0_; have HB := n1_; clear n0_ n1_; (try clear hb); (try clear hkp); (try clear ho0); obtain ⟨Ao10, co10, eo10⟩ := Kd.R_slice HO125.out; subst eo10) | ((with_reducible refine gate_callee (f := 65) rfl ?_); refine goesL_ (some 12) rfl rfl Try.func65 (by kernel_rfl) rfl #[.slice Ao10 t123.length co10, .int .u32 (((l1.length : Int)) % 4294967296)] rfl (by (try simp only [List.map_toArray, List.map_cons, List.map_nil]); first | done | rfl | (simp only [List.length_drop, List.length_take]; rfl)) ?_; (with_reducible refine (region_Put.calls (fun k_ => some k_ = (.slice Ao10 t123.length co10 : Value).ownBlock) (.slice Ao10 t123.length co10) t123 (((l1.length : Int)) % 4294967296) t126 w _ ?side1 ?side2 A4.out).mono ?_); (case side1 => repeat (first | (with_reducible first | exact HB.out | apply below_alloc | apply pw_below_drewN | apply below_drew1) | exact HB.out)); (case side2 => exact Kd.R_tight rfl HO125.out); rintro e w11 ⟨v127, rfl, ho0, hb, hkp⟩; refine ⟨_, rfl, ?_⟩; have n0_ := Aside0.mk (Kd.R_mono (ok' := fun k_ => True) ho0 (fun k_ hk_ => trivial)); have n1_ := Aside0.mk (hb); clear HB; clear HO125; have HO128 := n0_; have HB := n1_; clear n0_ n1_; (try clear hb); (try clear hkp); (try clear ho0)) | ((with_reducible refine gate_callee (f := 66) rfl ?_); refine goesL_ (some 14) rfl rfl Try.func66 (by kernel_rfl) rfl #[.slice A1 l1.length c1] rfl (by (try simp only [List.map_toArray, List.map_cons, List.map_nil]); first | done | rfl | (simp only [List.length_drop, List.length_take]; rfl)) ?_; (with_reducible refine (sum_Of.calls k _ _ l1 t129 _ ?side1 ?side2 A5.out).mono ?_); (case side1 => repeat (first | exact (Kd.C_below HR1.out HB.out) | (with_reducible refine Kd.C_alloc ?_ _) | (with_reducible refine Kd.C_drewN ?_ _) | (with_reducible refine Kd.C_drew ?_))); (case side2 => exact HC1.out); rintro e w' ⟨rfl, ⟨nd, rfl⟩⟩; refine ⟨_, rfl, ?_⟩; obtain ⟨Ao12, co12, eo12⟩ := Kd.R_slice HO128.out; subst eo12) | ((with_reducible refine gate_callee (f := 65) rfl ?_); refine goesL_ (some 15) rfl rfl Try.func65 (by kernel_rfl) rfl #[.slice Ao12 t126.length co12, .int .u32 t129] rfl (by (try simp only [List.map_toArray, List.map_cons, List.map_nil]); first | done | rfl | (simp only [List.length_drop, List.length_take]; rfl)) ?_; (with_reducible refine (region_Put.calls (fun k_ => some k_ = (.slice Ao12 t126.length co12 : Value).ownBlock) (.slice Ao12 t126.length co12) t126 t129 t130 w _ ?side1 ?side2 A6.out).mono ?_); (case side1 => repeat (first | (with_reducible first | exact HB.out | apply below_alloc | apply pw_below_drewN | apply below_drew1) | exact HB.out)); (case side2 => exact Kd.R_tight rfl HO128.out); rintro e w13 ⟨v131, rfl, ho0, hb, hkp⟩; refine ⟨_, rfl, ?_⟩; have n0_ := Aside0.mk (Kd.R_mono (ok' := fun k_ => True) ho0 (fun k_ hk_ => trivial)); have n1_ := Aside0.mk (hb); clear HB; clear HO128; have HO132 := n0_; have HB := n1_; clear n0_ n1_; (try clear hb); (try clear hkp); (try clear ho0); obtain ⟨Ao14, co14, eo14⟩ := Kd.R_slice HO132.out; subst eo14) | ((with_reducible refine gate_callee (f := 66) rfl ?_); refine goesL_ (some 18) rfl rfl Try.func66 (by kernel_rfl) rfl #[.slice Ao14 t130.length co14] rfl (by (try simp only [List.map_toArray, List.map_cons, List.map_nil]); first | done | rfl | (simp only [List.length_drop, List.length_take]; rfl)) ?_; (with_reducible refine (sum_Of.calls k _ _ t130 t133 _ ?side1 ?side2 A7.out).mono ?_); (case side1 => repeat (first | exact (Kd.R_reads' HO132.out).2.2 | (with_reducible refine Kd.C_alloc ?_ _) | (with_reducible refine Kd.C_drewN ?_ _) | (with_reducible refine Kd.C_drew ?_))); (case side2 => exact (Kd.R_reads' HO132.out).2.1); rintro e w' ⟨rfl, ⟨nd, rfl⟩⟩; refine ⟨_, rfl, ?_⟩) | ((with_reducible refine gate_callee (f := 65) rfl ?_); refine goesL_ (some 19) rfl rfl Try.func65 (by kernel_rfl) rfl #[.slice Ao14 t130.length co14, .int .u32 t133] rfl (by (try simp only [List.map_toArray, List.map_cons, List.map_nil]); first | done | rfl | (simp only [List.length_drop, List.length_take]; rfl)) ?_; (with_reducible refine (region_Put.calls (fun k_ => some k_ = (.slice Ao14 t130.length co14 : Value).ownBlock) (.slice Ao14 t130.length co14) t130 t133 t134 w _ ?side1 ?side2 A8.out).mono ?_); (case side1 => repeat (first | (with_reducible first | exact HB.out | apply below_alloc | apply pw_below_drewN | apply below_drew1) | exact HB.out)); (case side2 => exact Kd.R_tight rfl HO132.out); rintro e w15 ⟨v135, rfl, ho0, hb, hkp⟩; refine ⟨_, rfl, ?_⟩; have n0_ := Aside0.mk (Kd.R_mono (ok' := fun k_ => True) ho0 (fun k_ hk_ => trivial)); have n1_ := Aside0.mk (hb); clear HB; clear HO132; have HO136 := n0_; have HB := n1_; clear n0_ n1_; (try clear hb); (try clear hkp); (try clear ho0)))
  go_ret
  exact ⟨_, by first | rfl | (simp [errW_none, errW_some] <;> rfl) | (simp [*, errW_none, errW_some] <;> rfl), by (with_reducible repeat (first | apply Kd.R_alloc | apply Kd.R_drewN | apply Kd.R_drew)); exact HO136.out, by repeat (first | (with_reducible first | exact HB.out | apply below_alloc | apply pw_below_drewN | apply below_drew1) | exact HB.out)⟩

end Go.Proofs.Ytpojfebecmjloaa.PWalFull
