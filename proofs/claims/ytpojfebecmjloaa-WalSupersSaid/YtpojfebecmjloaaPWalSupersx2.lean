-- Lean text by a program of this repo (wip/tools/printx.py), out of Lean's own print of the translation
import Derived.Laws.Externs
import Derived.Lib.BytesEntry
import Derived.Lib.Bytealg
import Derived.Deep.MidRow
import Derived.Deep.RegionHeld3
import Derived.Test.YtpojfebecmjloaaMid
import Derived.Test.YtpojfebecmjloaaPWalSupersx0
import Derived.Test.YtpojfebecmjloaaPWalSupersx1
namespace Go.Proofs.Ytpojfebecmjloaa.PWalSupers
open Go.RowKit Go.Proofs.YtpojfebecmjloaaW.PrintWords Go.Proofs.YtpojfebecmjloaaW.PrintLast Go.Proofs.YtpojfebecmjloaaW.PrintMore
attribute [local go_sem] max2_int min2_int max_two min_two max_three min_three max_four min_four   -- for this text's walks alone
set_option linter.unusedVariables false
set_option linter.unusedSimpArgs false

/-! ### sector_Disk_Read: function 16 -/
-- FN rounds=0 making=1
def sector_Disk_Read.f (s : Disk.DiskM) (a1 : Int) : Option (List Int × Int × Disk.DiskM) := if s.loose.length < 1000000 then (if Disk.there s a1 = true then some (Disk.read s a1, 0, s) else some ([], 1, s)) else none
theorem disk_loose_row {w : World} {go off : Nat} {cur : Array Value} {t : TypeId} {fr : Nat × Nat} {p : Int × List Int} (hp : p.2.length = 64) (hh : w.heap[go]? = some (.cells cur t fr))
    (hc : ∀ j v, (Value.int .i64 p.1 :: Disk.bytes p.2)[j]? = some v → cur.toList[off + j]? = some v) : Kd.C (Kd.int .u8) w (some ⟨go, off + 1, none⟩) 64 p.2 := by
  refine Kd.C_of_reads (d := 0) ⟨hp, by omega, fun _ => ⟨_, rfl, fun j hj => ?_⟩⟩
  have h1 := hc (j + 1) (.int .u8 (p.2.getD j 0)) (by rw [List.getElem?_cons_succ]; exact Disk.bytes_get (by omega))
  have he : (⟨go, off + 1, none⟩ : Addr).add j = ⟨go, off + (j + 1), none⟩ := by unfold Addr.add; split <;> simp_all; omega
  rw [he]
  simp only [World.cell?, hh]
  simpa using h1
set_option maxHeartbeats 4000000 in
set_option maxRecDepth 100000 in
open Go.Proofs.Ytpojfebecmjloaa.Opq Go.Proofs.Ytpojfebecmjloaa.Mid in
theorem sector_Disk_Read.calls (g : Nat) (s0_0 : Disk.DiskM) (a1 : Int) (r1 : List Int) (r2 : Int) (r3 : Disk.DiskM) (w0 w : World) (hI : IsS71 w0 w g s0_0) (hB : Below w0.heap.size w0 w) (h : sector_Disk_Read.f s0_0 a1 = some (r1, r2, r3)) :
    Calls Try.prog 16 #[.pointer (some ⟨g, 0, none⟩), .int .i64 a1] w fun e w' => ∃ v0_ : Value, e = .returned (.tuple #[v0_, .int .i64 r2]) ∧ Kd.R (Kd.int .u8) 5 w' w.heap.size (fun _ => True) v0_ r1 ∧ IsS71 w0 w' g r3 ∧ Below w0.heap.size w0 w' ∧ KeepO ts71 w0.heap.size w w' := by
  unfold sector_Disk_Read.f at h
  split at h
  case isFalse => cases h
  case isTrue hlen =>
  have HI := Aside0.mk hI
  have HB := Aside0.mk hB
  have HL := Aside0.mk hlen
  have HM := Aside0.mk (show (s0_0.loose.map (·.1)).length = s0_0.loose.length from List.length_map _)
  clear hlen hB
  cases ht : Disk.there s0_0 a1 with
  | false =>
    rw [ht, if_neg (by simp)] at h
    have h := Option.some.inj h
    injection h with h1 h
    injection h with h2 h3
    subst h1 h2 h3
    have HX := Aside0.mk (sector_Disk_Lasts.calls g s0_0 a1 [] 1 s0_0 w0 w HI.out HB.out (by unfold sector_Disk_Lasts.f; rw [ht]; rfl))
    clear hI h ht
    go_enter Try.func16, Try.ntmps16
    go_wp2_with fail
    refine HX.out.mono ?_
    rintro e w1 ⟨v0, rfl, ho0, hi1, hb1, hk1⟩
    have HO1 := Aside0.mk ho0
    have HI1 := Aside0.mk hi1
    have HB1 := Aside0.mk hb1
    have HK1 := Aside0.mk hk1
    clear HX ho0 hi1 hb1 hk1
    go_wp2_with fail
    refine (sector_Disk_Pending.calls0 g s0_0 w0 w1 HI1.out HL.out).mono ?_
    rintro e w2 ⟨v1, rfl, ho1, hb2⟩
    obtain ⟨A2, c2, rfl, _⟩ := Kd.R_reads ho1
    rw [HM.out]
    have HB2 := Aside0.mk hb2
    clear ho1 hb2
    go_wp2_with fail
    refine wp_loop_rounds 1 ?_
    rw [rounds_succ]
    by_cases hl : RowKit.wrap64 ((s0_0.loose.length : Int) - 1) ≥ 0
    · have d0 : decide (RowKit.wrap64 ((s0_0.loose.length : Int) - 1) ≥ 0) = true := decide_eq_true hl
      clear hl
      go_wp2
      go_ret2
      exact ⟨_, rfl, Kd.R_below HO1.out HB2.out, HI1.out.below HB2.out, below_weaken HB1.out HB1.out.size HB2.out, HK1.out.below_trans HB2.out⟩
    · have d0 : decide (RowKit.wrap64 ((s0_0.loose.length : Int) - 1) ≥ 0) = false := decide_eq_false hl
      clear hl
      go_wp2
      go_ret2
      exact ⟨_, rfl, Kd.R_below HO1.out HB2.out, HI1.out.below HB2.out, below_weaken HB1.out HB1.out.size HB2.out, HK1.out.below_trans HB2.out⟩
  | true =>
    rw [ht, if_pos rfl] at h
    have h := Option.some.inj h
    injection h with h1 h
    injection h with h2 h3
    subst h1 h2 h3
    have HX := Aside0.mk (sector_Disk_Lasts.calls g s0_0 a1 (Disk.sector s0_0.lasts a1) 0 s0_0 w0 w HI.out HB.out (by unfold sector_Disk_Lasts.f; rw [ht]; rfl))
    clear hI h ht
    go_enter Try.func16, Try.ntmps16
    go_wp2_with fail
    refine HX.out.mono ?_
    rintro e w1 ⟨v0, rfl, ho0, hi1, hb1, hk1⟩
    have HO1 := Aside0.mk ho0
    have HI1 := Aside0.mk hi1
    have HB1 := Aside0.mk hb1
    have HK1 := Aside0.mk hk1
    clear HX ho0 hi1 hb1 hk1
    go_wp2_with fail
    refine (sector_Disk_Pending.calls0 g s0_0 w0 w1 HI1.out HL.out).mono ?_
    rintro e w2 ⟨v1, rfl, ho1, hb2⟩
    obtain ⟨A2, c2, rfl, _⟩ := Kd.R_reads ho1
    rw [HM.out]
    have HI2 := Aside0.mk (HI1.out.below hb2)
    have HO2 := Aside0.mk (Kd.R_below HO1.out hb2)
    have HBB := Aside0.mk (below_weaken HB1.out HB1.out.size hb2)
    have HK2 := Aside0.mk (HK1.out.below_trans hb2)
    clear ho1 hb2 HI1 HO1 HB1 HK1 HI HB
    go_wp2_with fail
    go_loopg [8] (s0_0.loose.length + 1) (fun kq v8 wr => ∃ x : Int, v8 = .int .i64 x ∧ Aside0 (wr = w2) ∧ Aside0 ((kq : Int) = x + 2 ∧ x < s0_0.loose.length) ∧ Aside0 (∀ p ∈ s0_0.loose.drop (x + 1).toNat, p.1 ≠ a1))
    case atStart =>
      exact ⟨_, rfl, ⟨rfl⟩, ⟨by have := HL.out; rw [show RowKit.wrap64 ((s0_0.loose.length : Int) - 1) = (s0_0.loose.length : Int) - 1 by unfold RowKit.wrap64; omega]; omega⟩, ⟨by
        have := HL.out
        rw [show RowKit.wrap64 ((s0_0.loose.length : Int) - 1) = (s0_0.loose.length : Int) - 1 by unfold RowKit.wrap64; omega]
        rw [List.drop_of_length_le (by omega)]
        intro p hp
        cases hp⟩⟩
    case round =>
      obtain ⟨x, rfl, HW, HQ, HN⟩ := hrel
      obtain rfl := HW.out
      by_cases hx : 0 ≤ x
      · obtain ⟨m, rfl⟩ := Int.eq_ofNat_of_zero_le hx
        have hm : m < s0_0.loose.length := by have := HQ.out.2; omega
        obtain ⟨gl, vo, hg, hge, hgb, hgl, hown, hok⟩ := HI2.out
        obtain ⟨go, cap, cur, rfl, hgo, hh, hc, hcells⟩ := disk_loose hown hok (by omega)
        have hcell : wr.cell? ⟨g, 1, none⟩ = some (.slice (some ⟨go, 0, none⟩) s0_0.loose.length cap) := (blk_cell hg 1).trans rfl
        have q0 : (0 : Int) ≤ (m : Int) := by omega
        have q1 : (m : Int) < (s0_0.loose.length : Int) := by omega
        have d0 : decide ((m : Int) ≥ 0) = true := decide_eq_true q0
        have hc0 : wr.cell? ⟨go, m * 65, none⟩ = some (.int .i64 (s0_0.loose[m]).1) := by
          rw [show m * 65 = m * 65 + 0 from rfl]
          simpa [World.cell?, hh] using hcells m hm 0 _ rfl
        have HP := Aside0.mk (show (s0_0.loose[m]).2.length = 64 from (hok.loose _ (List.getElem_mem hm)).2.2)
        have HH := Aside0.mk hh
        have HC := Aside0.mk (fun j v => hcells m hm j v)
        have HM2 := Aside0.mk hm
        have HE := Aside0.mk (show s0_0.loose.drop m = s0_0.loose[m] :: s0_0.loose.drop (m + 1) from List.drop_eq_getElem_cons hm)
        have HPE := Aside0.mk (show s0_0.loose[m]? = some s0_0.loose[m] from List.getElem?_eq_getElem hm)
        generalize s0_0.loose[m] = p at hc0 HP HC HE HPE
        clear hx hm hg hge hgb hgl hown hok hgo hh hc hcells
        cases gk with
        | zero => exact absurd HQ.out.1 (by omega)
        | succ k1 =>
        by_cases he : p.1 = a1
        · have d1 : (p.1 == a1) = true := beq_iff_eq.2 he
          have HX := Aside0.mk (clone_64 HP.out (disk_loose_row (off := m * 65) HP.out HH.out HC.out))
          have HRD := Aside0.mk (show Disk.read s0_0 a1 = p.2 by
            have hm := HM2.out
            have he2 : s0_0.loose[m] = p := by have := HPE.out; rw [List.getElem?_eq_getElem hm] at this; exact Option.some.inj this
            unfold Disk.read
            rw [Disk.latest_at hm (he2 ▸ he) (by have := HN.out; rwa [show ((m : Int) + 1).toNat = m + 1 by omega] at this), he2]
            rfl)
          clear he
          go_wp2_with (go_at_call 44; refine HX.out.mono ?_; rintro e w3 ⟨v3, rfl, ho3, hb3⟩; have HO3 := Aside0.mk ho3; have HB3 := Aside0.mk hb3; clear ho3 hb3)
          go_ret2
          exact ⟨_, rfl, by rw [HRD.out]; exact Kd.R_lower HO3.out HK2.out.size, HI2.out.below HB3.out, below_weaken HBB.out HBB.out.size HB3.out, HK2.out.below_trans HB3.out⟩
        · have d1 : (p.1 == a1) = false := beq_eq_false_iff_ne.2 he
          have HN2 := Aside0.mk (show ∀ q ∈ s0_0.loose.drop m, q.1 ≠ a1 by
            rw [HE.out]
            intro q hq
            rcases List.mem_cons.1 hq with rfl | hq
            · exact he
            · have := HN.out
              rw [show ((m : Int) + 1).toNat = m + 1 by omega] at this
              exact this q hq)
          clear he
          go_wp2
          go_roundg k1
          case measure => omega
          case rel => exact ⟨(m : Int) - 1, by rw [show RowKit.wrap64 ((m : Int) - 1) = (m : Int) - 1 by have := HL.out; have := HM2.out; unfold RowKit.wrap64; omega], ⟨rfl⟩, ⟨by have := HQ.out; omega⟩, ⟨by rw [show ((m : Int) - 1 + 1).toNat = m by omega]; exact HN2.out⟩⟩
      · have d0 : decide (x ≥ 0) = false := decide_eq_false (by omega)
        have HRD := Aside0.mk (show Disk.read s0_0 a1 = Disk.sector s0_0.lasts a1 by
          unfold Disk.read
          rw [Disk.latest_none (by have := HN.out; rw [show (x + 1).toNat = 0 by omega] at this; exact this)]
          rfl)
        clear hx
        go_wp2
        go_ret2
        exact ⟨_, rfl, by rw [HRD.out]; exact HO2.out, HI2.out, HBB.out, HK2.out⟩


/-! ### sector_Disk_Flush: function 21 -/
-- FN rounds=0 making=1
-- IMPORT Derived.Test.YtpojfebecmjloaaMid
-- IMPORT Derived.Deep.RegionHeld3
-- IMPORT Derived.Deep.MidRow
def sector_Disk_Flush.f (s : Disk.DiskM)  : Option (Int × Disk.DiskM) := if s.loose.length < 1000000 then some (Disk.flush s) else none
set_option maxHeartbeats 8000000 in
set_option maxRecDepth 100000 in
open Go.Proofs.Ytpojfebecmjloaa.Opq Go.Proofs.Ytpojfebecmjloaa.Mid in
theorem sector_Disk_Flush.calls (g : Nat) (s0_0 : Disk.DiskM)  (r1 : Int) (r2 : Disk.DiskM) (w0 w : World) (hI : IsS71 w0 w g s0_0) (hB : Below w0.heap.size w0 w) (h : sector_Disk_Flush.f s0_0  = some (r1, r2)) :
    Calls Try.prog 21 #[.pointer (some ⟨g, 0, none⟩)] w fun e w' => e = .returned (.int .i64 r1) ∧ IsS71 w0 w' g r2 ∧ Below w0.heap.size w0 w' ∧ Go.Proofs.Ytpojfebecmjloaa.Opq.KeepO ts71 w0.heap.size w w' := by
  unfold sector_Disk_Flush.f at h
  split at h
  case isFalse => cases h
  case isTrue hlen =>
  have h := Option.some.inj h
  have HI := Aside0.mk hI
  have HB := Aside0.mk hB
  have HL := Aside0.mk hlen
  clear hI hlen hB
  unfold Disk.flush at h
  cases hd : (Disk.burn s0_0).down with
  | true =>
    rw [if_pos hd] at h
    injection h with h1 h2
    subst h1 h2
    have HX := Aside0.mk (sector_Disk_burn.calls g s0_0 false (Disk.burn s0_0) w0 w HI.out HB.out (by unfold sector_Disk_burn.f; rw [hd]; rfl))
    clear hd
    go_enter Try.func21, Try.ntmps21
    go_wp2_with (go_at_call 42; refine HX.out.mono ?_; rintro e w1 ⟨rfl, hr⟩; have HR1 := Aside0.mk hr; clear hr)
    go_ret
    exact ⟨rfl, HR1.out⟩
  | false =>
    rw [if_neg (by rw [hd]; simp)] at h
    injection h with h1 h2
    subst h1 h2
    have HX := Aside0.mk (sector_Disk_burn.calls g s0_0 true (Disk.burn s0_0) w0 w HI.out HB.out (by unfold sector_Disk_burn.f; rw [hd]; rfl))
    clear hd
    have hu := Try.underlying75
    have HSZ := Aside0.mk (show (Try.prog.info? 75).map (·.size) = some 65 by kernel_rfl)
    have HU := Aside0.mk hu
    clear hu
    go_enter Try.func21, Try.ntmps21
    go_wp2_with fail
    refine HX.out.mono ?_
    rintro e w1 ⟨rfl, hi, hb, hk⟩
    obtain ⟨gl, vo, hg, hge, hgb, hgl, hown, hok⟩ := hi
    obtain ⟨Av, cv, rfl, _⟩ := disk_loose_nil hown
    have hcell1 : w1.cell? ⟨g, 1, none⟩ = some (.slice Av s0_0.loose.length cv) := (blk_cell hg 1).trans rfl
    have HALL := Aside0.mk (And.intro hg (And.intro hge (And.intro hgb (And.intro hgl (And.intro hown hok)))))
    have HB1 := Aside0.mk hb
    have HK1 := Aside0.mk hk
    clear HX hg hge hgb hgl hown hok hb hk
    go_wp2_with fail
    go_loopg [17] (s0_0.loose.length + 1) (fun kq v17 wr => ∃ k : Nat, v17 = .int .i64 k ∧ Aside0 (k + kq = s0_0.loose.length + 1) ∧ Aside0 (w1.grownBy wr (some gl)) ∧ Aside0 (wr.heap[gl]? = some (.cells (Disk.bytes (Disk.settle (s0_0.loose.take k) s0_0.lasts)).toArray 73 (0, 0))))
    case atStart =>
      exact ⟨0, rfl, ⟨by omega⟩, ⟨⟨rfl, rfl, rfl, Nat.le_refl _, fun _ _ _ => rfl⟩⟩, ⟨HALL.out.2.2.2.1⟩⟩
    case round =>
      obtain ⟨k, rfl, HQ, HG, HLL⟩ := hrel
      by_cases hlt : k < s0_0.loose.length
      · have d0 : decide (k < s0_0.loose.length) = true := decide_eq_true hlt
        obtain ⟨go, cap, cur, hv, hgo, hh, hc, hcells⟩ : ∃ go cap cur, Value.slice Av s0_0.loose.length cv = .slice (some ⟨go, 0, none⟩) s0_0.loose.length cap ∧ w0.heap.size ≤ go ∧ w1.heap[go]? = some (.cells cur 75 (0, 0)) ∧ s0_0.loose.length ≤ cap ∧
          ∀ (k : Nat) (hk : k < s0_0.loose.length) j v, (Value.int .i64 (s0_0.loose[k]).1 :: Disk.bytes (s0_0.loose[k]).2)[j]? = some v → cur.toList[k * 65 + j]? = some v := disk_loose (s := Disk.burn s0_0) HALL.out.2.2.2.2.1 HALL.out.2.2.2.2.2 (show 0 < s0_0.loose.length by omega)
        injection hv with hA _ hcv
        subst hA hcv
        have q0 : (0 : Int) ≤ (k : Int) := by omega
        have q1 : (k : Int) < (s0_0.loose.length : Int) := by omega
        have hgogl : go ≠ gl := fun e => by
          subst e
          have h3 := HALL.out.2.2.2.1
          rw [hh] at h3
          injection h3 with hc
          injection hc with _ hc
          exact absurd hc (by decide)
        have HH := Aside0.mk ((HG.out.block go (blk_lt hh) (fun e => by injection e with e; exact hgogl e)).trans hh)
        have HC := Aside0.mk (fun j v => hcells k hlt j v)
        have HOK := Aside0.mk (HALL.out.2.2.2.2.2.loose s0_0.loose[k] (List.getElem_mem hlt))
        have HT := Aside0.mk hlt
        have HW := Aside0.mk (show s0_0.loose.take (k + 1) = s0_0.loose.take k ++ [s0_0.loose[k]] from List.take_succ_eq_append_getElem hlt)
        generalize s0_0.loose[k] = p at HC HW HOK
        obtain ⟨pa, b⟩ := p
        obtain ⟨m, rfl⟩ := Int.eq_ofNat_of_zero_le HOK.out.1
        have HE := Aside0.mk (show (Value.int .i64 (m : Int) :: Disk.bytes b).length = 65 by
          have := HOK.out.2.2
          simp [Disk.bytes, this])
        clear hlt hgo hh hc hcells hgogl
        cases gk with
        | zero => exact absurd HQ.out (by have := HT.out; omega)
        | succ k1 =>
        go_wp2_with (first
          | ((with_reducible refine gate_dst (N := 20) rfl ?_); refine load_blk rfl 75 (.tmp 19) rfl (Value.int .i64 (m : Int) :: Disk.bytes b) _ (by rfl) HH.out HC.out HU.out rfl (by rw [HE.out]; exact HSZ.out) ?_)
          | ((with_reducible refine gate_dst (N := 4) rfl ?_); refine box_event rfl (N := 4) rfl (cs := (Value.int .i64 0 :: Disk.bytes (List.replicate 64 0)).toArray) (t := 75) (by kernel_rfl) ?_; intro gb hgb w5 hbox hb5; have HX := Aside0.mk hbox; have HB5 := Aside0.mk hb5; have HGB := Aside0.mk hgb; clear hgb hbox hb5)
          | ((with_reducible refine gate_store (t := 75) (p := 4) rfl ?_); refine store_new rfl 75 (.tmp 4) (.tmp 20) rfl (Value.int .i64 (m : Int) :: Disk.bytes b) (by rfl) (by rfl) HX.out (by rw [HE.out]; rfl) (by rw [HE.out]; exact HSZ.out) (elem_one ((m : Int), b)) ?_; intro w6 hx6 hg6 hs6; have HX6 := Aside0.mk hx6; have HB6 := Aside0.mk (show Below wr.heap.size wr w6 from HB5.out.grown hg6 HB5.out.size (fun k e => by injection e with e; have := HGB.out; omega)); clear hx6 hg6 hs6))
        obtain ⟨n, hn⟩ : ∃ n, n = s0_0.lasts.length / 64 := ⟨_, rfl⟩
        obtain ⟨bb, hbb⟩ : ∃ bb, bb = Disk.bytes b := ⟨_, rfl⟩
        have hbl : bb.length = 64 := by rw [hbb, Disk.bytes_length]; exact HOK.out.2.2
        have p0 : (0 : Int) ≤ (m : Int) := by omega
        have hmn : m < n := by have h2 : (m : Int) < ((s0_0.lasts.length / 64 : Nat) : Int) := HOK.out.2.1; omega
        have p1 : (m : Int) < (n : Int) := by omega
        have HGR6 := Aside0.mk (show w1.grownBy w6.drew (some gl) from grown_below HG.out (show Below wr.heap.size wr w6.drew from ⟨HB6.out.1, HB6.out.2, HB6.out.3, HB6.out.4, HB6.out.5⟩))
        have hL6 : w6.drew.heap[gl]? = some (.cells (Disk.bytes (Disk.settle (s0_0.loose.take k) s0_0.lasts)).toArray 73 (0, 0)) := (HB6.out.block gl (blk_lt HLL.out)).trans HLL.out
        have hbo := Disk.there_in (s := Disk.burn s0_0) HALL.out.2.2.2.2.2 (at_ := (m : Int)) (by unfold Disk.there; rw [decide_eq_true HOK.out.1, decide_eq_true HOK.out.2.1]; rfl)
        have hLl : (Disk.settle (s0_0.loose.take k) s0_0.lasts).length = s0_0.lasts.length := settle_length (fun p hp => by
            have h2 := HALL.out.2.2.2.2.2.loose p (List.mem_of_mem_take hp)
            have h3 := Disk.there_in HALL.out.2.2.2.2.2 (at_ := p.1) (by unfold Disk.there; rw [decide_eq_true h2.1, decide_eq_true h2.2.1]; rfl)
            exact ⟨h3.2.2, h2.2.2⟩)
        have hoff : m * 64 + b.length ≤ (Disk.settle (s0_0.loose.take k) s0_0.lasts).length := by rw [hLl]; have := hbo.2.2; have := HOK.out.2.2; simp at *; omega
        have HPUT := Aside0.mk (put_world hL6 hoff)
        rw [← hbb] at HPUT
        have hgw : w6.drew.heap[g]? = _ := (HGR6.out.block g (blk_lt HALL.out.1) (fun e => by injection e with e; exact disk_ne HALL.out.1 HALL.out.2.2.2.1 e)).trans HALL.out.1
        have hS := disk_step (n := n) (m := m) (bb := bb) (show w6.drew.heap[g]? = _ from hn ▸ hgw) hL6 HX6.out hbb (by omega) (disk_ne HALL.out.1 HALL.out.2.2.2.1) (show gb ≠ gl from fun e => by subst e; have := blk_lt HLL.out; have := HGB.out; omega) hbl
        have hSd := hS.1
        have hSs := hS.2
        have hi : (Try.prog.info? 73).map (·.size) = some bb.length := by rw [hbl]; kernel_rfl
        have hu := Try.underlying73
        have h1 : ∀ v ∈ bb, v.oneCell' = true := by rw [hbb]; intro v hv; unfold Disk.bytes at hv; obtain ⟨x, _, rfl⟩ := List.mem_map.1 hv; rfl
        have HGX := Aside0.mk (show w1.grownBy (w6.drew.setCells gl (m * 64) bb) (some gl) from grown_row HGR6.out (grown_setCells gl (m * 64) bb _))
        have HBB := Aside0.mk hbb
        clear hS hgw hoff hLl hbo hL6 hbb hn hmn
        go_region_held3 (fun w' => w'.cell? ⟨g, 0, none⟩ = some (.slice (some ⟨gl, 0, none⟩) n n) ∧ w'.cell? ⟨gb, 0, none⟩ = some (.int .i64 (m : Int)) ∧ w'.rangeAt gb 1 bb ∧ w'.there gl (m * 64) bb.length) (first | exact hSd | exact hSs) (fail)
        clear hSd hSs hu hi h1
        go_wp2
        go_roundg k1
        case measure => omega
        case rel => exact ⟨k + 1, (by rw [show RowKit.wrap64 ((k : Int) + 1) = ((k + 1 : Nat) : Int) by have := HL.out; have := HT.out; unfold RowKit.wrap64; omega]), ⟨by have := HQ.out; omega⟩, HGX, ⟨by rw [HW.out, settle_snoc]; exact HPUT.out⟩⟩
      · have d0 : decide (k < s0_0.loose.length) = false := decide_eq_false hlt
        have HT := Aside0.mk (show s0_0.loose.length ≤ k by omega)
        clear hlt
        have hgw : wr.heap[g]? = _ := (HG.out.block g (blk_lt HALL.out.1) (fun e => by injection e with e; exact disk_ne HALL.out.1 HALL.out.2.2.2.1 e)).trans HALL.out.1
        have hcg : wr.cell? ⟨g, 1, none⟩ = some (.slice Av s0_0.loose.length cv) := (blk_cell hgw 1).trans rfl
        have hfg : wr.frozen? ⟨g, 1, none⟩ = false := blk_frozen hgw 1
        have HGW := Aside0.mk hgw
        clear hgw
        go_wp2
        go_ret
        have hfin := disk_landed (s := Disk.burn s0_0) (W := wr.setCell ⟨g, 1, none⟩ (.slice none 0 0)) (L := Disk.settle s0_0.loose s0_0.lasts) (f := (Disk.burn s0_0).fuse) (dn := (Disk.burn s0_0).down) HALL.out HB1.out HG.out (by have := HLL.out; rw [List.take_of_length_le HT.out] at this; exact this)
          (settle_length (fun p hp => by
            have h2 := HALL.out.2.2.2.2.2.loose p hp
            have h3 := Disk.there_in HALL.out.2.2.2.2.2 (at_ := p.1) (by unfold Disk.there; rw [decide_eq_true h2.1, decide_eq_true h2.2.1]; rfl)
            exact ⟨h3.2.2, h2.2.2⟩))
          (by simpa using blk_set HGW.out 1 (.slice none 0 0)) (fun k hk => Below.heap_setCell _ _ _ _ hk) (by simp [World.setCell]) ⟨rfl, rfl, rfl⟩
        exact ⟨rfl, hfin.1, hfin.2.1, HK1.out.trans hfin.2.2⟩


/-! ### interregnumref01_Same: function 17 -/
def interregnumref01_Same.l0 : Nat → List Int → List Int → Int → Option (Bool)
  | 0, _, _, _ => none
  | k + 1, x0, x1, x5 => if x5 < (x0.length : Int) then (if 0 ≤ x5 then (if x5 < (x1.length : Int) then (if (rd x0 x5) = (rd x1 x5) then (interregnumref01_Same.l0 k x0 x1 (wrap64 (x5 + 1))) else (some false)) else (none)) else (none)) else (some true)
def interregnumref01_Same.f (k : Nat) (l0 : List Int) (l1 : List Int) : Option (Bool) := if (l0.length : Int) = (l1.length : Int) then (interregnumref01_Same.l0 k l0 l1 0) else (some false)
theorem interregnumref01_Same.mono_l : ∀ k, (∀ y0 y1 y2, LeO (interregnumref01_Same.l0 k y0 y1 y2) (interregnumref01_Same.l0 (k + 1) y0 y1 y2))
  | 0 => fun _ _ _ r h => by simp [interregnumref01_Same.l0] at h
  | k + 1 => by
    have ih0 := interregnumref01_Same.mono_l k
    · intro y0 y1 y2
      unfold interregnumref01_Same.l0
      repeat' first
      | (with_reducible exact ih0 _ _ _)
      | (with_reducible exact LeO.refl _)
      | (with_reducible exact LeO.none _)
      | (with_reducible refine LeO.ite ?_ ?_)
      | (with_reducible refine LeO.bind ?_ (fun _ => ?_))
      | exact ih0 _ _ _
      | exact LeO.none _
      | refine LeO.ite ?_ ?_
      | refine LeO.bind ?_ (fun _ => ?_)
theorem interregnumref01_Same.mono : ∀ a0 a1 k, LeO (interregnumref01_Same.f k a0 a1) (interregnumref01_Same.f (k + 1) a0 a1) := by
  intro a0 a1 k
  have ih0 := interregnumref01_Same.mono_l k
  unfold interregnumref01_Same.f
  repeat' first
      | (with_reducible exact ih0 _ _ _)
      | (with_reducible exact LeO.refl _)
      | (with_reducible exact LeO.none _)
      | (with_reducible refine LeO.ite ?_ ?_)
      | (with_reducible refine LeO.bind ?_ (fun _ => ?_))
      | exact ih0 _ _ _
      | exact LeO.none _
      | refine LeO.ite ?_ ?_
      | refine LeO.bind ?_ (fun _ => ?_)
set_option maxHeartbeats 8000000 in
set_option maxRecDepth 100000 in
theorem interregnumref01_Same.calls (k : Nat) (A0 : Option Addr) (c0 : Nat) (l0 : List Int) (A1 : Option Addr) (c1 : Nat) (l1 : List Int) (r : Bool) (w : World) (hr0 : Kd.C (Kd.int .u8) w A0 l0.length l0) (hc0 : l0.length ≤ c0) (hr1 : Kd.C (Kd.int .u8) w A1 l1.length l1) (hc1 : l1.length ≤ c1) (h : interregnumref01_Same.f k l0 l1 = some r) :
    Calls Try.prog 17 #[.slice A0 l0.length c0, .slice A1 l1.length c1] w fun e w' => e = .returned (.bool r) ∧ Drawn0 w w' := by
  have HR0 := Aside0.mk hr0
  have HC0 := Aside0.mk hc0
  clear hr0 hc0
  have HR1 := Aside0.mk hr1
  have HC1 := Aside0.mk hc1
  clear hr1 hc1
  have H : (if (l0.length : Int) = (l1.length : Int) then (interregnumref01_Same.l0 k l0 l1 0) else (some false)) = some r := h
  clear h
  by_cases c3 : (l0.length : Int) = (l1.length : Int)
  · rw [if_pos c3] at H
    have c3b0 : ((l0.length : Int) == (l1.length : Int)) = true := beq_iff_eq.mpr c3
    have c3b1 : ((l0.length : Int) != (l1.length : Int)) = false := bne_eq_false_iff_eq.mpr c3
    have c3b2 : (l0.length == l1.length) = true := by first | simpa using c3 | (simp at c3 ⊢; omega)
    clear c3
    have H' := Aside0.mk H
    clear H
    go_enter Try.func17, Try.ntmps17
    go_wp2
    repeat (go_quiet (fail); try go_wp2)
    go_loopg [5] k (fun kq v5 w' => ∃ (x5_1 : Int), v5 = .int .i64 x5_1 ∧ Aside0 (interregnumref01_Same.l0 kq l0 l1 x5_1 = some r) ∧ Aside0 (kq ≤ k) ∧ Drawn0 w w')
    case atStart => exact ⟨(0), (by first | rfl | (simp; done) | (simp [*]; done)), H', ⟨Nat.le_refl _⟩, by repeat (first | exact Drawn0.refl _ | apply Drawn0.step)⟩
    case round =>
      clear H'
      try clear c1
      try clear p2
      try clear c3
      try clear c3b0
      try clear c3b1
      try clear c3b2
      obtain ⟨x5_1, rfl, HA, HK1, ⟨m1, rfl⟩⟩ := hrel
      cases gk with
      | zero => exact absurd HA.out (by simp [interregnumref01_Same.l0])
      | succ k1 =>
        have H := HA.out
        clear HA
        simp only [interregnumref01_Same.l0] at H
        by_cases c4 : x5_1 < (l0.length : Int)
        · rw [if_pos c4] at H
          have c4b0 : decide (x5_1 < (l0.length : Int)) = true := decide_eq_true c4
          clear c4
          by_cases c5 : 0 ≤ x5_1
          · rw [if_pos c5] at H
            have c5b0 : decide (0 ≤ x5_1) = true := decide_eq_true c5
            clear c5
            by_cases c6 : x5_1 < (l1.length : Int)
            · rw [if_pos c6] at H
              have c6b0 : decide (x5_1 < (l1.length : Int)) = true := decide_eq_true c6
              clear c6
              by_cases c7 : (rd l0 x5_1) = (rd l1 x5_1)
              · rw [if_pos c7] at H
                have c7b0 : ((rd l0 x5_1) == (rd l1 x5_1)) = true := beq_iff_eq.mpr c7
                have c7b1 : ((rd l0 x5_1) != (rd l1 x5_1)) = false := bne_eq_false_iff_eq.mpr c7
                clear c7
                have H' := Aside0.mk H
                clear H
                have p101 : 0 ≤ (x5_1 : Int) := of_decide_eq_true (by first | (with_reducible assumption) | assumption)
                have q101 : x5_1 < (l0.length : Int) := of_decide_eq_true (by first | (with_reducible assumption) | assumption)
                obtain ⟨ad101, e101, hx101_0⟩ := Kd.at_int HR0.out x5_1 p101 q101
                cases e101
                replace p101 := eq_true p101
                replace q101 := eq_true q101
                have p102 : 0 ≤ (x5_1 : Int) := of_decide_eq_true (by first | (with_reducible assumption) | assumption)
                have q102 : x5_1 < (l1.length : Int) := of_decide_eq_true (by first | (with_reducible assumption) | assumption)
                obtain ⟨ad102, e102, hx102_0⟩ := Kd.at_int HR1.out x5_1 p102 q102
                cases e102
                replace p102 := eq_true p102
                replace q102 := eq_true q102
                go_wp2
                repeat (go_quiet (fail); try go_wp2)
                go_roundg k1
                case measure => have := HK1.out; omega
                case rel => exact ⟨(wrap64 (x5_1 + 1)), (by first | rfl | (simp; done) | (simp [*]; done)), H', ⟨by have := HK1.out; omega⟩, by repeat (first | exact Drawn0.refl _ | apply Drawn0.step)⟩
              · rw [if_neg c7] at H
                have c7b0 : ((rd l0 x5_1) == (rd l1 x5_1)) = false := beq_eq_false_iff_ne.mpr c7
                have c7b1 : ((rd l0 x5_1) != (rd l1 x5_1)) = true := bne_iff_ne.mpr c7
                obtain rfl := Option.some.inj H
                have p101 : 0 ≤ (x5_1 : Int) := of_decide_eq_true (by first | (with_reducible assumption) | assumption)
                have q101 : x5_1 < (l0.length : Int) := of_decide_eq_true (by first | (with_reducible assumption) | assumption)
                obtain ⟨ad101, e101, hx101_0⟩ := Kd.at_int HR0.out x5_1 p101 q101
                cases e101
                replace p101 := eq_true p101
                replace q101 := eq_true q101
                have p102 : 0 ≤ (x5_1 : Int) := of_decide_eq_true (by first | (with_reducible assumption) | assumption)
                have q102 : x5_1 < (l1.length : Int) := of_decide_eq_true (by first | (with_reducible assumption) | assumption)
                obtain ⟨ad102, e102, hx102_0⟩ := Kd.at_int HR1.out x5_1 p102 q102
                cases e102
                replace p102 := eq_true p102
                replace q102 := eq_true q102
                go_wp2
                repeat (go_quiet (fail); try go_wp2)
                go_ret
                exact ⟨by first | rfl | (simp; done) | (simp [*]; done), by repeat (first | exact Drawn0.refl _ | apply Drawn0.step)⟩
            · rw [if_neg c6] at H
              exact absurd H (by simp)
          · rw [if_neg c5] at H
            exact absurd H (by simp)
        · rw [if_neg c4] at H
          have c4b0 : decide (x5_1 < (l0.length : Int)) = false := decide_eq_false c4
          clear c4
          obtain rfl := Option.some.inj H
          go_wp2
          repeat (go_quiet (fail); try go_wp2)
          go_ret
          exact ⟨by first | rfl | (simp; done) | (simp [*]; done), by repeat (first | exact Drawn0.refl _ | apply Drawn0.step)⟩
  · rw [if_neg c3] at H
    have c3b0 : ((l0.length : Int) == (l1.length : Int)) = false := beq_eq_false_iff_ne.mpr c3
    have c3b1 : ((l0.length : Int) != (l1.length : Int)) = true := bne_iff_ne.mpr c3
    have c3b2 : (l0.length == l1.length) = false := by first | simpa using c3 | (simp at c3 ⊢; omega)
    obtain rfl := Option.some.inj H
    go_enter Try.func17, Try.ntmps17
    go_wp2
    repeat (go_quiet (fail); try go_wp2)
    go_ret
    exact ⟨by first | rfl | (simp; done) | (simp [*]; done), by repeat (first | exact Drawn0.refl _ | apply Drawn0.step)⟩

/-! ### interregnumref01_Rows: function 28 -/
def interregnumref01_Rows.l0 : Nat → List (List Int) → List (List Int) → Int → Option (Bool)
  | 0, _, _, _ => none
  | k + 1, x0, x1, x5 => if x5 < (x0.length : Int) then (if 0 ≤ x5 then (if x5 < (x1.length : Int) then ((interregnumref01_Same.f k (rd_L1 x0 x5) (rd_L1 x1 x5)).bind fun t105 => (if t105 = true then (interregnumref01_Rows.l0 k x0 x1 (wrap64 (x5 + 1))) else (some false))) else (none)) else (none)) else (some true)
def interregnumref01_Rows.f (k : Nat) (l0 : List (List Int)) (l1 : List (List Int)) : Option (Bool) := if (l0.length : Int) = (l1.length : Int) then (interregnumref01_Rows.l0 k l0 l1 0) else (some false)
theorem interregnumref01_Rows.mono_l : ∀ k, (∀ y0 y1 y2, LeO (interregnumref01_Rows.l0 k y0 y1 y2) (interregnumref01_Rows.l0 (k + 1) y0 y1 y2))
  | 0 => fun _ _ _ r h => by simp [interregnumref01_Rows.l0] at h
  | k + 1 => by
    have ih0 := interregnumref01_Rows.mono_l k
    · intro y0 y1 y2
      unfold interregnumref01_Rows.l0
      repeat' first
      | (with_reducible exact ih0 _ _ _)
      | (with_reducible exact interregnumref01_Same.mono _ _ _)
      | (with_reducible exact LeO.refl _)
      | (with_reducible exact LeO.none _)
      | (with_reducible refine LeO.ite ?_ ?_)
      | (with_reducible refine LeO.bind ?_ (fun _ => ?_))
      | exact ih0 _ _ _
      | exact interregnumref01_Same.mono _ _ _
      | exact LeO.none _
      | refine LeO.ite ?_ ?_
      | refine LeO.bind ?_ (fun _ => ?_)
theorem interregnumref01_Rows.mono : ∀ a0 a1 k, LeO (interregnumref01_Rows.f k a0 a1) (interregnumref01_Rows.f (k + 1) a0 a1) := by
  intro a0 a1 k
  have ih0 := interregnumref01_Rows.mono_l k
  unfold interregnumref01_Rows.f
  repeat' first
      | (with_reducible exact ih0 _ _ _)
      | (with_reducible exact interregnumref01_Same.mono _ _ _)
      | (with_reducible exact LeO.refl _)
      | (with_reducible exact LeO.none _)
      | (with_reducible refine LeO.ite ?_ ?_)
      | (with_reducible refine LeO.bind ?_ (fun _ => ?_))
      | exact ih0 _ _ _
      | exact interregnumref01_Same.mono _ _ _
      | exact LeO.none _
      | refine LeO.ite ?_ ?_
      | refine LeO.bind ?_ (fun _ => ?_)
set_option maxHeartbeats 8000000 in
set_option maxRecDepth 100000 in
theorem interregnumref01_Rows.calls (k : Nat) (A0 : Option Addr) (c0 : Nat) (l0 : List (List Int)) (A1 : Option Addr) (c1 : Nat) (l1 : List (List Int)) (r : Bool) (w : World) (hr0 : Kd.C (Kd.slice 5 (Kd.int .u8)) w A0 l0.length l0) (hc0 : l0.length ≤ c0) (hr1 : Kd.C (Kd.slice 5 (Kd.int .u8)) w A1 l1.length l1) (hc1 : l1.length ≤ c1) (h : interregnumref01_Rows.f k l0 l1 = some r) :
    Calls Try.prog 28 #[.slice A0 l0.length c0, .slice A1 l1.length c1] w fun e w' => e = .returned (.bool r) ∧ Drawn0 w w' := by
  have HR0 := Aside0.mk hr0
  have HC0 := Aside0.mk hc0
  clear hr0 hc0
  have HR1 := Aside0.mk hr1
  have HC1 := Aside0.mk hc1
  clear hr1 hc1
  have H : (if (l0.length : Int) = (l1.length : Int) then (interregnumref01_Rows.l0 k l0 l1 0) else (some false)) = some r := h
  clear h
  by_cases c3 : (l0.length : Int) = (l1.length : Int)
  · rw [if_pos c3] at H
    have c3b0 : ((l0.length : Int) == (l1.length : Int)) = true := beq_iff_eq.mpr c3
    have c3b1 : ((l0.length : Int) != (l1.length : Int)) = false := bne_eq_false_iff_eq.mpr c3
    have c3b2 : (l0.length == l1.length) = true := by first | simpa using c3 | (simp at c3 ⊢; omega)
    clear c3
    have H' := Aside0.mk H
    clear H
    go_enter Try.func28, Try.ntmps28
    go_wp2
    repeat (go_quiet (fail); try go_wp2)
    go_loopg [5] k (fun kq v5 w' => ∃ (x5_1 : Int), v5 = .int .i64 x5_1 ∧ Aside0 (interregnumref01_Rows.l0 kq l0 l1 x5_1 = some r) ∧ Aside0 (kq ≤ k) ∧ Drawn0 w w')
    case atStart => exact ⟨(0), (by first | rfl | (simp; done) | (simp [*]; done)), H', ⟨Nat.le_refl _⟩, by repeat (first | exact Drawn0.refl _ | apply Drawn0.step)⟩
    case round =>
      clear H'
      try clear c1
      try clear c2
      try clear p2
      try clear c3
      try clear c3b0
      try clear c3b1
      try clear c3b2
      obtain ⟨x5_1, rfl, HA, HK1, ⟨m1, rfl⟩⟩ := hrel
      cases gk with
      | zero => exact absurd HA.out (by simp [interregnumref01_Rows.l0])
      | succ k1 =>
        have H := HA.out
        clear HA
        simp only [interregnumref01_Rows.l0] at H
        by_cases c4 : x5_1 < (l0.length : Int)
        · rw [if_pos c4] at H
          have c4b0 : decide (x5_1 < (l0.length : Int)) = true := decide_eq_true c4
          clear c4
          by_cases c5 : 0 ≤ x5_1
          · rw [if_pos c5] at H
            have c5b0 : decide (0 ≤ x5_1) = true := decide_eq_true c5
            clear c5
            by_cases c6 : x5_1 < (l1.length : Int)
            · rw [if_pos c6] at H
              have c6b0 : decide (x5_1 < (l1.length : Int)) = true := decide_eq_true c6
              clear c6
              replace H := Option.bind_eq_some_iff.mp H
              obtain ⟨t105, A70, H⟩ := H
              replace H : (if t105 = true then (interregnumref01_Rows.l0 k1 l0 l1 (wrap64 (x5_1 + 1))) else (some false)) = some r := H
              have A7 := Aside0.mk A70
              clear A70
              by_cases c8 : t105 = true
              · subst c8
                have H1 : (interregnumref01_Rows.l0 k1 l0 l1 (wrap64 (x5_1 + 1))) = some r := by rw [if_pos rfl] at H; exact H
                clear H
                have H := H1
                clear H1
                have H' := Aside0.mk H
                clear H
                have p103 : 0 ≤ (x5_1 : Int) := of_decide_eq_true (by first | (with_reducible assumption) | assumption)
                have q103 : x5_1 < (l0.length : Int) := of_decide_eq_true (by first | (with_reducible assumption) | assumption)
                obtain ⟨ad103, A103_0, c103_0, e103, hx103_0, hl103_0, hi103_0⟩ := at_L1 HR0.out x5_1 p103 q103
                cases e103
                have HR103_0 := Aside0.mk hi103_0
                have HC103_0 := Aside0.mk hl103_0
                clear hi103_0 hl103_0
                replace p103 := eq_true p103
                replace q103 := eq_true q103
                have p104 : 0 ≤ (x5_1 : Int) := of_decide_eq_true (by first | (with_reducible assumption) | assumption)
                have q104 : x5_1 < (l1.length : Int) := of_decide_eq_true (by first | (with_reducible assumption) | assumption)
                obtain ⟨ad104, A104_0, c104_0, e104, hx104_0, hl104_0, hi104_0⟩ := at_L1 HR1.out x5_1 p104 q104
                cases e104
                have HR104_0 := Aside0.mk hi104_0
                have HC104_0 := Aside0.mk hl104_0
                clear hi104_0 hl104_0
                replace p104 := eq_true p104
                replace q104 := eq_true q104
                go_wp2_with (first | (go_at_call 17; (with_reducible refine (interregnumref01_Same.calls k1 _ _ (rd_L1 l0 x5_1) _ _ (rd_L1 l1 x5_1) true _ ?side1 ?side2 ?side3 ?side4 A7.out).mono ?_); (case side1 => repeat (first | exact HR103_0.out | (with_reducible refine Kd.C_alloc ?_ _) | (with_reducible refine Kd.C_drewN ?_ _) | (with_reducible refine Kd.C_drew ?_))); (case side2 => exact HC103_0.out); (case side3 => repeat (first | exact HR104_0.out | (with_reducible refine Kd.C_alloc ?_ _) | (with_reducible refine Kd.C_drewN ?_ _) | (with_reducible refine Kd.C_drew ?_))); (case side4 => exact HC104_0.out); rintro e w' ⟨rfl, ⟨nd, rfl⟩⟩; (try first | exact ⟨rfl, _, World.drewN_drewN _ _ _⟩ | exact ⟨rfl, _, Eq.trans (World.drewN_drewN _ _ _) (congrArg (World.drewN _) (Nat.add_assoc _ _ _))⟩)))
                repeat (go_quiet (first | (go_at_call 17; (with_reducible refine (interregnumref01_Same.calls k1 _ _ (rd_L1 l0 x5_1) _ _ (rd_L1 l1 x5_1) true _ ?side1 ?side2 ?side3 ?side4 A7.out).mono ?_); (case side1 => repeat (first | exact HR103_0.out | (with_reducible refine Kd.C_alloc ?_ _) | (with_reducible refine Kd.C_drewN ?_ _) | (with_reducible refine Kd.C_drew ?_))); (case side2 => exact HC103_0.out); (case side3 => repeat (first | exact HR104_0.out | (with_reducible refine Kd.C_alloc ?_ _) | (with_reducible refine Kd.C_drewN ?_ _) | (with_reducible refine Kd.C_drew ?_))); (case side4 => exact HC104_0.out); rintro e w' ⟨rfl, ⟨nd, rfl⟩⟩; (try first | exact ⟨rfl, _, World.drewN_drewN _ _ _⟩ | exact ⟨rfl, _, Eq.trans (World.drewN_drewN _ _ _) (congrArg (World.drewN _) (Nat.add_assoc _ _ _))⟩))); try go_wp2_with (first | (go_at_call 17; (with_reducible refine (interregnumref01_Same.calls k1 _ _ (rd_L1 l0 x5_1) _ _ (rd_L1 l1 x5_1) true _ ?side1 ?side2 ?side3 ?side4 A7.out).mono ?_); (case side1 => repeat (first | exact HR103_0.out | (with_reducible refine Kd.C_alloc ?_ _) | (with_reducible refine Kd.C_drewN ?_ _) | (with_reducible refine Kd.C_drew ?_))); (case side2 => exact HC103_0.out); (case side3 => repeat (first | exact HR104_0.out | (with_reducible refine Kd.C_alloc ?_ _) | (with_reducible refine Kd.C_drewN ?_ _) | (with_reducible refine Kd.C_drew ?_))); (case side4 => exact HC104_0.out); rintro e w' ⟨rfl, ⟨nd, rfl⟩⟩; (try first | exact ⟨rfl, _, World.drewN_drewN _ _ _⟩ | exact ⟨rfl, _, Eq.trans (World.drewN_drewN _ _ _) (congrArg (World.drewN _) (Nat.add_assoc _ _ _))⟩))))
                go_roundg k1
                case measure => have := HK1.out; omega
                case rel => exact ⟨(wrap64 (x5_1 + 1)), (by first | rfl | (simp; done) | (simp [*]; done)), H', ⟨by have := HK1.out; omega⟩, by repeat (first | exact Drawn0.refl _ | apply Drawn0.step)⟩
              · replace c8 := Bool.eq_false_iff.mpr c8
                subst c8
                have H1 : (some false) = some r := by rw [if_neg (show ¬ (false = true) by decide)] at H; exact H
                clear H
                have H := H1
                clear H1
                obtain rfl := Option.some.inj H
                have p103 : 0 ≤ (x5_1 : Int) := of_decide_eq_true (by first | (with_reducible assumption) | assumption)
                have q103 : x5_1 < (l0.length : Int) := of_decide_eq_true (by first | (with_reducible assumption) | assumption)
                obtain ⟨ad103, A103_0, c103_0, e103, hx103_0, hl103_0, hi103_0⟩ := at_L1 HR0.out x5_1 p103 q103
                cases e103
                have HR103_0 := Aside0.mk hi103_0
                have HC103_0 := Aside0.mk hl103_0
                clear hi103_0 hl103_0
                replace p103 := eq_true p103
                replace q103 := eq_true q103
                have p104 : 0 ≤ (x5_1 : Int) := of_decide_eq_true (by first | (with_reducible assumption) | assumption)
                have q104 : x5_1 < (l1.length : Int) := of_decide_eq_true (by first | (with_reducible assumption) | assumption)
                obtain ⟨ad104, A104_0, c104_0, e104, hx104_0, hl104_0, hi104_0⟩ := at_L1 HR1.out x5_1 p104 q104
                cases e104
                have HR104_0 := Aside0.mk hi104_0
                have HC104_0 := Aside0.mk hl104_0
                clear hi104_0 hl104_0
                replace p104 := eq_true p104
                replace q104 := eq_true q104
                go_wp2_with (first | (go_at_call 17; (with_reducible refine (interregnumref01_Same.calls k1 _ _ (rd_L1 l0 x5_1) _ _ (rd_L1 l1 x5_1) false _ ?side1 ?side2 ?side3 ?side4 A7.out).mono ?_); (case side1 => repeat (first | exact HR103_0.out | (with_reducible refine Kd.C_alloc ?_ _) | (with_reducible refine Kd.C_drewN ?_ _) | (with_reducible refine Kd.C_drew ?_))); (case side2 => exact HC103_0.out); (case side3 => repeat (first | exact HR104_0.out | (with_reducible refine Kd.C_alloc ?_ _) | (with_reducible refine Kd.C_drewN ?_ _) | (with_reducible refine Kd.C_drew ?_))); (case side4 => exact HC104_0.out); rintro e w' ⟨rfl, ⟨nd, rfl⟩⟩; (try first | exact ⟨rfl, _, World.drewN_drewN _ _ _⟩ | exact ⟨rfl, _, Eq.trans (World.drewN_drewN _ _ _) (congrArg (World.drewN _) (Nat.add_assoc _ _ _))⟩)))
                repeat (go_quiet (first | (go_at_call 17; (with_reducible refine (interregnumref01_Same.calls k1 _ _ (rd_L1 l0 x5_1) _ _ (rd_L1 l1 x5_1) false _ ?side1 ?side2 ?side3 ?side4 A7.out).mono ?_); (case side1 => repeat (first | exact HR103_0.out | (with_reducible refine Kd.C_alloc ?_ _) | (with_reducible refine Kd.C_drewN ?_ _) | (with_reducible refine Kd.C_drew ?_))); (case side2 => exact HC103_0.out); (case side3 => repeat (first | exact HR104_0.out | (with_reducible refine Kd.C_alloc ?_ _) | (with_reducible refine Kd.C_drewN ?_ _) | (with_reducible refine Kd.C_drew ?_))); (case side4 => exact HC104_0.out); rintro e w' ⟨rfl, ⟨nd, rfl⟩⟩; (try first | exact ⟨rfl, _, World.drewN_drewN _ _ _⟩ | exact ⟨rfl, _, Eq.trans (World.drewN_drewN _ _ _) (congrArg (World.drewN _) (Nat.add_assoc _ _ _))⟩))); try go_wp2_with (first | (go_at_call 17; (with_reducible refine (interregnumref01_Same.calls k1 _ _ (rd_L1 l0 x5_1) _ _ (rd_L1 l1 x5_1) false _ ?side1 ?side2 ?side3 ?side4 A7.out).mono ?_); (case side1 => repeat (first | exact HR103_0.out | (with_reducible refine Kd.C_alloc ?_ _) | (with_reducible refine Kd.C_drewN ?_ _) | (with_reducible refine Kd.C_drew ?_))); (case side2 => exact HC103_0.out); (case side3 => repeat (first | exact HR104_0.out | (with_reducible refine Kd.C_alloc ?_ _) | (with_reducible refine Kd.C_drewN ?_ _) | (with_reducible refine Kd.C_drew ?_))); (case side4 => exact HC104_0.out); rintro e w' ⟨rfl, ⟨nd, rfl⟩⟩; (try first | exact ⟨rfl, _, World.drewN_drewN _ _ _⟩ | exact ⟨rfl, _, Eq.trans (World.drewN_drewN _ _ _) (congrArg (World.drewN _) (Nat.add_assoc _ _ _))⟩))))
                go_ret
                exact ⟨by first | rfl | (simp; done) | (simp [*]; done), by repeat (first | exact Drawn0.refl _ | apply Drawn0.step)⟩
            · rw [if_neg c6] at H
              exact absurd H (by simp)
          · rw [if_neg c5] at H
            exact absurd H (by simp)
        · rw [if_neg c4] at H
          have c4b0 : decide (x5_1 < (l0.length : Int)) = false := decide_eq_false c4
          clear c4
          obtain rfl := Option.some.inj H
          go_wp2
          repeat (go_quiet (fail); try go_wp2)
          go_ret
          exact ⟨by first | rfl | (simp; done) | (simp [*]; done), by repeat (first | exact Drawn0.refl _ | apply Drawn0.step)⟩
  · rw [if_neg c3] at H
    have c3b0 : ((l0.length : Int) == (l1.length : Int)) = false := beq_eq_false_iff_ne.mpr c3
    have c3b1 : ((l0.length : Int) != (l1.length : Int)) = true := bne_iff_ne.mpr c3
    have c3b2 : (l0.length == l1.length) = false := by first | simpa using c3 | (simp at c3 ⊢; omega)
    obtain rfl := Option.some.inj H
    go_enter Try.func28, Try.ntmps28
    go_wp2
    repeat (go_quiet (fail); try go_wp2)
    go_ret
    exact ⟨by first | rfl | (simp; done) | (simp [*]; done), by repeat (first | exact Drawn0.refl _ | apply Drawn0.step)⟩

-- NOT PRINTED: function 74 (utf8_RuneCountInString)

-- NOT PRINTED: function 71 (utf8_RuneCount)

-- NOT PRINTED: function 72 (bytealg_Count)

/-! ### bytes_Equal: function 68 -/
def bytes_Equal.f (l0 : List Int) (l1 : List Int) : Option (Bool) := some ((strOfNums l0).toList == (strOfNums l1).toList)
set_option maxHeartbeats 8000000 in
set_option maxRecDepth 100000 in
theorem bytes_Equal.calls (A0 : Option Addr) (c0 : Nat) (l0 : List Int) (A1 : Option Addr) (c1 : Nat) (l1 : List Int) (r : Bool) (w : World) (hr0 : Kd.C (Kd.int .u8) w A0 l0.length l0) (hc0 : l0.length ≤ c0) (hr1 : Kd.C (Kd.int .u8) w A1 l1.length l1) (hc1 : l1.length ≤ c1) (h : bytes_Equal.f l0 l1 = some r) :
    Calls Try.prog 68 #[.slice A0 l0.length c0, .slice A1 l1.length c1] w fun e w' => e = .returned (.bool r) ∧ Drawn0 w w' := by
  have HR0 := Aside0.mk hr0
  have HC0 := Aside0.mk hc0
  clear hr0 hc0
  have HR1 := Aside0.mk hr1
  have HC1 := Aside0.mk hc1
  clear hr1 hc1
  have H : (some ((strOfNums l0).toList == (strOfNums l1).toList)) = some r := h
  clear h
  obtain rfl := Option.some.inj H
  have hcv3 := Kd.C_string (P := Try.prog) (A := A0) (c := c0) Try.underlying22 Try.underlying5 Try.underlying9 HR0.out
  have hcv4 := Kd.C_string (P := Try.prog) (A := A1) (c := c1) Try.underlying22 Try.underlying5 Try.underlying9 HR1.out
  go_enter Try.func68, Try.ntmps68
  go_wp2
  go_ret
  exact ⟨by first | rfl | (simp; done) | (simp [*]; done), by repeat (first | exact Drawn0.refl _ | apply Drawn0.step)⟩

-- NOT PRINTED: function 79 (bytealg_IndexByte)

-- NOT PRINTED: function 75 (bytes_IndexByte)

-- NOT PRINTED: function 76 (bytealg_Index)

/-! ### bytealg_Cutover: function 77 -/
-- FN rounds=0 making=1
def bytealg_Cutover.f : Nat := 0


/-! ### bytealg_hashStr_byte: function 80 -/
-- FN rounds=0 making=1
def bytealg_hashStr_byte.f : Nat := 0


/-! ### bytealg_IndexRabinKarp_byte: function 78 -/
-- FN rounds=0 making=1
def bytealg_IndexRabinKarp_byte.f : Nat := 0


-- NOT PRINTED: function 73 (bytes_Index)

-- NOT PRINTED: function 64 (bytes_Count)

/-! ### region_zero: function 46 -/
-- FN rounds=0 making=1
-- IMPORT Derived.Lib.Bytealg
-- IMPORT Derived.Lib.BytesEntry
-- IMPORT Derived.Laws.Externs
def region_zero.f (l0 : List Int) : Option Bool := some (l0.all (fun x => (x.toNat.toUInt8 == 0)))
theorem count_run (A : Option Addr) (c : Nat) (l : List Int) (w : World) (h : 0 < l.length → ∃ ad, A = some ad ∧ ∀ j, j < l.length → w.cell? (ad.add j) = some (.int .u8 (l.getD j 0))) :
    (Extern.BytealgCount.count #[.slice A l.length c, .int .u8 0]).run Try.prog w = .ok (.int .i64 (Lib.countByte (Lib.bytesOf l) 0)) w := by
  have hb : (Extern.Bytes.bytesOf (.slice A l.length c)).run Try.prog w = .ok ⟨(Lib.bytesOf l).toArray⟩ w := by
    cases A with
    | none =>
      obtain rfl : l = [] := by
        by_cases h0 : 0 < l.length
        · obtain ⟨ad, he, _⟩ := h h0
          cases he
        · exact List.eq_nil_of_length_eq_zero (by omega)
      rfl
    | some ad =>
      have hl := Lib.run_loadBytesX (P := Try.prog) w l ad .empty (fun j x hj => by
        have hjl : j < l.length := (List.getElem?_eq_some_iff.1 hj).1
        obtain ⟨ad2, he, hc⟩ := h (by omega)
        injection he with he
        subst he
        rw [hc j hjl, List.getD_eq_getElem?_getD, hj]
        rfl)
      refine Eq.trans hl ?_
      congr 1
      apply ByteArray.ext
      simp
  have hs := Lib.run_countString (P := Try.prog) ⟨(Lib.bytesOf l).toArray⟩ 0 w
  change Sem.run Try.prog (Extern.Bytes.bytesOf (.string ⟨(Lib.bytesOf l).toArray⟩) >>= fun b => _) w = _ at hs
  change Sem.run Try.prog (Extern.Bytes.bytesOf (.slice A l.length c) >>= fun b => _) w = _
  rw [Sem.run_bind, hb]
  exact hs
theorem bytes_Count_one (A : Option Addr) (c b2 d : Nat) (l : List Int) (w : World) (hr : Kd.C (Kd.int .u8) w A l.length l) (hc2 : w.cell? ⟨b2, 0, none⟩ = some (.int .u8 0)) :
    Calls Try.prog 64 #[.slice A l.length c, .slice (some ⟨b2, 0, none⟩) 1 d] w fun e w' => e = .returned (.int .i64 (Lib.countByte (Lib.bytesOf l) 0)) ∧ w = w' := by
  obtain ⟨_, _, hcells⟩ := Kd.reads_of_C (d := (0 : Int)) hr
  have hx := count_run A c l w hcells
  have HX := Aside0.mk hx
  clear hx hcells hr
  go_enter Try.func64, Try.ntmps64
  go_wp2
  rw [run_callFunc_extern Try.func72 (by kernel_rfl) (by kernel_rfl) (by kernel_rfl) (e := Extern.BytealgCount.count) (by kernel_rfl), HX.out]
  simp only [Result.andThen]
  rw [Oper.upon_value]
  go_wp2
  go_ret
  exact ⟨rfl, rfl⟩
theorem count_all (l : List Int) : (Lib.countByte (Lib.bytesOf l) 0 = l.length) ↔ (l.all (fun x => (x.toNat.toUInt8 == 0))) = true := by
  unfold Lib.countByte Lib.bytesOf
  rw [show l.length = (l.map (fun n => n.toNat.toUInt8)).length by simp, List.count_eq_length]
  simp only [List.mem_map, List.all_eq_true, beq_iff_eq]
  constructor
  · intro h x hx
    exact (h _ ⟨x, hx, rfl⟩).symm
  · rintro h _ ⟨x, hx, rfl⟩
    exact (h x hx).symm
theorem region_zero.calls (A0 : Option Addr) (c0 : Nat) (l0 : List Int) (r : Bool) (w : World) (hr0 : Kd.C (Kd.int .u8) w A0 l0.length l0) (hc0 : l0.length ≤ c0) (h : region_zero.f l0 = some r) :
    Calls Try.prog 46 #[.slice A0 l0.length c0] w fun e w' => e = .returned (.bool r) ∧ Below w.heap.size w w' := by
  have h := Option.some.inj h
  have HR := Aside0.mk hr0
  have HE := Aside0.mk (show (((Lib.countByte (Lib.bytesOf l0) 0 : Nat) : Int) == (l0.length : Int)) = r by
    rw [← h]
    have hc := count_all l0
    by_cases hh : Lib.countByte (Lib.bytesOf l0) 0 = l0.length
    · rw [hc.1 hh, hh, beq_self_eq_true]
    · have h2 : (l0.all (fun x => (x.toNat.toUInt8 == 0))) = false := Bool.eq_false_iff.2 (fun e => hh (hc.2 e))
      rw [h2]
      exact beq_eq_false_iff_ne.2 (fun e => hh (by omega)))
  clear hr0 h
  go_enter Try.func46, Try.ntmps46
  go_wp2_with (go_at_call 64; refine (bytes_Count_one _ _ _ _ _ _ (Kd.C_alloc HR.out _) (by simp)).mono ?_; rintro e w' ⟨rfl, rfl⟩)
  go_ret
  exact ⟨by rw [← HE.out]; first | done | rfl, below_alloc (Below.refl _ _) _⟩


end Go.Proofs.Ytpojfebecmjloaa.PWalSupers
