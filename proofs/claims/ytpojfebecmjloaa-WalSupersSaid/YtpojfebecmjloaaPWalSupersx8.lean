-- Lean text by a program of this repo (wip/tools/printx.py), out of Lean's own print of the translation
import Derived.Test.YtpojfebecmjloaaHelp
import Derived.Test.YtpojfebecmjloaaMid
import Derived.Test.YtpojfebecmjloaaPWalSupersx0
import Derived.Test.YtpojfebecmjloaaPWalSupersx1
import Derived.Test.YtpojfebecmjloaaPWalSupersx2
import Derived.Test.YtpojfebecmjloaaPWalSupersx4
import Derived.Test.YtpojfebecmjloaaPWalSupersx5
import Derived.Test.YtpojfebecmjloaaPWalSupersx7
namespace Go.Proofs.Ytpojfebecmjloaa.PWalSupers
open Go.RowKit Go.Proofs.YtpojfebecmjloaaW.PrintWords Go.Proofs.YtpojfebecmjloaaW.PrintLast Go.Proofs.YtpojfebecmjloaaW.PrintMore
attribute [local go_sem] max2_int min2_int max_two min_two max_three min_three max_four min_four   -- for this text's walks alone
set_option linter.unusedVariables false
set_option linter.unusedSimpArgs false

/-! ### interregnumlaw04_WalSupers: function 10 -/
-- FN rounds=1 making=1
-- IMPORT Derived.Test.YtpojfebecmjloaaMid
-- IMPORT Derived.Test.YtpojfebecmjloaaHelp
def supersRun (k : Nat) : Nat → Int → Int → Int → Disk.DiskM → Option (Int × Int × Disk.DiskM)
  | 0, _, gen, at_, s => some (gen, at_, s)
  | m + 1, i, gen, at_, s => (logCheck.f k s gen at_ false [i]).bind fun c => if c.1 = 0 ∧ c.2.2.2.1 = false then supersRun k m (i + 1) c.2.1 c.2.2.1 c.2.2.2.2 else none
def spoil (b : List Int) (i t : Int) : List Int := b.set i.toNat (Go.bits .xor .u8 (rd b i) t)
def interregnumlaw04_WalSupers.f (k : Nat) (a0 a1 a2 : Int) : Option Bool :=
  if a2 = 0 then some true else
  (logOpen.f k (Disk.new 80)).bind fun o => (supersRun k (a0 % 5 + 1).toNat 0 o.2.1 o.2.2.1 o.2.2.2.2).bind fun t =>
    (sector_Disk_Read.f t.2.2 (Int.tmod t.1 2)).bind fun b => (sector_Disk_Write.f b.2.2 (Int.tmod t.1 2) (spoil b.1 (a1 % 64) a2)).bind fun x => (sector_Disk_Flush.f x.2).bind fun y => (logOpen.f k y.2).bind fun q =>
      if (0 ≤ a0 ∧ a0 < 256 ∧ 0 ≤ a1 ∧ a1 < 256) ∧ (o.2.2.2.1 = 0 ∧ b.1.length = 64 ∧ t.1 = a0 % 5 + 1 + 1) ∧ (q.2.2.2.1 = 0 ∧ q.2.1 = a0 % 5 + 1) ∧
        ((a0 % 5 = 0 ∧ interregnumref01_Rows.f k q.1 [] = some true) ∨ (0 < a0 % 5 ∧ interregnumref01_Rows.f k q.1 [[a0 % 5 + 1 - 2]] = some true)) then some true else none
theorem full_block {w : World} {k : IntKind} {b n : Nat} {t : TypeId} {fr : Nat × Nat} {xs : List Int} (hb : w.heap[b]? = some (.cells (xs.map (Value.int k)).toArray t fr)) (hn : xs.length = n) (hm : xs.length ≤ 9223372036854775807) :
    Kd.C (Kd.int k) w (some ⟨b, 0, none⟩) n xs := ans04_block hb hn hm
theorem rows_C {w : World} {A : Option Addr} {n : Nat} {c : Nat} {xs : List Int} {L : List (Option Addr × Nat × Nat)} {B : Option Addr} {r : List (List Int)} (hC : Kd.C (Kd.scalar sliceV sliceV_one) w B L.length L) (hL : RowsAt w L r) : Kd.C (Kd.slice 5 (Kd.int .u8)) w B r.length r := by
  obtain ⟨hn, hm, hc⟩ := hC
  refine ⟨rfl, by have := hL.1; omega, fun h0 => ?_⟩
  obtain ⟨ad, e, hcell⟩ := hc (by have := hL.1; omega)
  refine ⟨ad, e, fun j xs hj => ?_⟩
  have hjl : j < L.length := by rw [hL.1]; exact (List.getElem?_eq_some_iff.1 hj).1
  obtain ⟨cs, h1, h2, h3⟩ := hcell j _ (List.getElem?_eq_getElem hjl)
  obtain ⟨p1, p2, p3⟩ := hL.2 j _ xs (List.getElem?_eq_getElem hjl) hj
  refine ⟨cs, h1, ⟨(L[j]).1, (L[j]).2.2, ?_, p2, Lies.C p3⟩, h3⟩
  have h2' : cs = [sliceV L[j]] := h2
  rw [h2']
  unfold sliceV
  rw [p1]
theorem lit_C {w : World} {b : Nat} {L : List (Option Addr × Nat × Nat)} {r : List (List Int)} (hb : w.heap[b]? = some (.cells (L.map sliceV).toArray 22 (0, 0))) (hl : L.length = r.length) (hm : r.length ≤ 9223372036854775807)
    (h : ∀ (j : Nat) p xs, L[j]? = some p → r[j]? = some xs → p.2.1 = xs.length ∧ xs.length ≤ p.2.2 ∧ Kd.C (Kd.int .u8) w p.1 xs.length xs) : Kd.C (Kd.slice 5 (Kd.int .u8)) w (some ⟨b, 0, none⟩) r.length r := by
  refine ⟨rfl, hm, fun h0 => ⟨_, rfl, fun j xs hj => ?_⟩⟩
  have hjl : j < L.length := by rw [hl]; exact (List.getElem?_eq_some_iff.1 hj).1
  obtain ⟨p1, p2, p3⟩ := h j _ xs (List.getElem?_eq_getElem hjl) hj
  refine ⟨[sliceV L[j]], rfl, ⟨(L[j]).1, (L[j]).2.2, by unfold sliceV; rw [p1], p2, p3⟩, fun i u hi => ?_⟩
  match i, hi with
  | 0, hi =>
    simp only [List.getElem?_cons_zero, Option.some.injEq] at hi
    subst hi
    have e : (⟨b, 0, none⟩ : Addr).add (j * 1 + 0) = ⟨b, j, none⟩ := by
      unfold Addr.add
      split
      · rename_i h0; congr 1; omega
      · show (⟨b, 0 + (j * 1 + 0), none⟩ : Addr) = _
        rw [Nat.zero_add, Nat.add_zero, Nat.mul_one]
    show w.cell? ((⟨b, 0, none⟩ : Addr).add (j * 1 + 0)) = _
    rw [e, blk_cell hb j, List.getElem?_toArray, List.getElem?_map, List.getElem?_eq_getElem hjl]
    rfl
set_option maxHeartbeats 8000000 in
set_option maxRecDepth 100000 in
open Go.Proofs.Ytpojfebecmjloaa.Opq in
theorem interregnumlaw04_WalSupers.calls (k : Nat) (a0 a1 a2 : Int) (r : Bool) (w : World) (h : interregnumlaw04_WalSupers.f k a0 a1 a2 = some r) :
    Calls Try.prog 10 #[.int .u8 a0, .int .u8 a1, .int .u8 a2] w fun e w' => e = .returned (.bool r) ∧ Below w.heap.size w w' := by
  unfold interregnumlaw04_WalSupers.f at h
  have HA := Aside0.mk (show ∀ W, Calls Try.prog 35 #[] W fun e w' => e = .returned (.bool true) ∧ Below W.heap.size W w' from fun W => interregnumlaw04_answers.calls true W rfl)
  by_cases ha2 : a2 = 0
  · rw [if_pos ha2] at h
    obtain rfl := Option.some.inj h
    have d0 : (a2 == 0) = true := beq_iff_eq.2 ha2
    clear h ha2
    go_enter Try.func10, Try.ntmps10
    go_wp2_with (go_at_call 35; refine (HA.out _).mono ?_; rintro e w1 ⟨rfl, hb⟩; have HB := Aside0.mk hb; clear hb)
    go_ret
    exact ⟨rfl, HB.out⟩
  rw [if_neg ha2] at h
  have d0 : (a2 == 0) = false := beq_eq_false_iff_ne.2 ha2
  obtain ⟨⟨x0, gen0, at0, err0, s0⟩, hopen, h⟩ := Option.bind_eq_some_iff.mp h
  obtain ⟨⟨gen9, at9, s9⟩, hrun, h⟩ := Option.bind_eq_some_iff.mp h
  obtain ⟨⟨bb, be, bs⟩, hread, h⟩ := Option.bind_eq_some_iff.mp h
  obtain ⟨⟨xe, xs⟩, hwrite, h⟩ := Option.bind_eq_some_iff.mp h
  obtain ⟨⟨ye, ys⟩, hflush, h⟩ := Option.bind_eq_some_iff.mp h
  obtain ⟨⟨qx, qgen, qat, qerr, qs⟩, hopen2, h⟩ := Option.bind_eq_some_iff.mp h
  dsimp only at hrun hread hwrite hflush hopen2 h
  split at h
  case isFalse => cases h
  case isTrue hall =>
  obtain rfl := Option.some.inj h
  clear h
  obtain ⟨⟨z0, z1, z2, z3⟩, ⟨rfl, hbl, hg9⟩, ⟨rfl, hqg⟩, hfin⟩ := hall
  obtain ⟨kk, hkk⟩ : ∃ kk, kk = a0 % 5 + 1 := ⟨_, rfl⟩
  rw [← hkk] at hg9 hqg hrun hfin
  have kb : 1 ≤ kk ∧ kk ≤ 5 := by omega
  have hfin2 : (kk = 1 ∧ interregnumref01_Rows.f k qx [] = some true) ∨ (1 < kk ∧ interregnumref01_Rows.f k qx [[kk - 2]] = some true) := hfin.imp (fun h => ⟨by omega, h.2⟩) (fun h => ⟨by omega, h.2⟩)
  have tm : Int.tmod a0 5 = a0 % 5 := Int.tmod_eq_emod_of_nonneg z0
  have wr1 : IntKind.u8.wrap (a0 % 5) = a0 % 5 := by simp [IntKind.wrap, IntKind.bits, IntKind.signed]; omega
  have wr2 : IntKind.i64.wrap (a0 % 5) = a0 % 5 := by rw [i64_w]; unfold wrap64; omega
  have TM1 := Aside0.mk (show Int.tmod a1 64 = a1 % 64 from Int.tmod_eq_emod_of_nonneg z2)
  have WR3 := Aside0.mk (show IntKind.u8.wrap (a1 % 64) = a1 % 64 by simp [IntKind.wrap, IntKind.bits, IntKind.signed]; omega)
  have IB := Aside0.mk (show 0 ≤ a1 % 64 ∧ a1 % 64 < 64 by omega)
  obtain ⟨M, hM⟩ := Int.eq_ofNat_of_zero_le (show 0 ≤ kk by omega)
  have HMM := Aside0.mk hM
  have KB := Aside0.mk kb
  have HKK := Aside0.mk hkk.symm
  have HOPEN := Aside0.mk hopen
  have HRUN := Aside0.mk hrun
  have HREAD := Aside0.mk hread
  have HWRITE := Aside0.mk hwrite
  have HFLUSH := Aside0.mk hflush
  have HOPEN2 := Aside0.mk hopen2
  have HFIN := Aside0.mk hfin2
  have HBL := Aside0.mk hbl
  have HG9 := Aside0.mk hg9
  have HQG := Aside0.mk hqg
  clear hkk kb hM hopen hrun hread hwrite hflush hopen2 hfin hfin2 hbl hg9 hqg z0 z1 z2 z3 ha2
  go_enter Try.func10, Try.ntmps10
  go_upto_region 4 with (go_at_call 13; refine (sector_New.calls 80 (Disk.new 80) w w (Below.refl _ _) rfl).mono ?_; rintro e w1 ⟨g, rfl, hi, hb, _⟩; have HI := Aside0.mk hi; have HB := Aside0.mk hb; clear hi hb)
  go_wp2_with fail
  refine (log_open k g (Disk.new 80) x0 gen0 at0 0 s0 w w1 HI.out HB.out HOPEN.out).mono ?_
  rintro e w2 ⟨lp, v0, rfl, ⟨L0, hR, hL⟩, hlog, hi, hb, _⟩
  rcases hlog with ⟨_, gl, rfl, hat, hge⟩ | ⟨h0, _⟩
  rotate_left
  · exact absurd rfl h0
  obtain ⟨A0, c0, rfl⟩ := Kd.R_slice hR
  have HGE := Aside0.mk (Nat.le_trans HB.out.size hge)
  have HI2 := Aside0.mk hi
  have HB2 := Aside0.mk hb
  have HL2 := Aside0.mk hat
  clear hi hb hat hR hL hge HI HB
  go_upto_region 8 with fail
  rw [HKK.out]
  clear tm wr1 wr2 d0
  go_wp2_with fail
  go_loopg [12] M (fun kq v12 wr => ∃ (i gen at_ : Int) (s : Disk.DiskM), v12 = .int .i64 i ∧ Aside0 (i + kq = kk ∧ 0 ≤ i) ∧ Aside0 (supersRun k kq i gen at_ s = some (gen9, at9, s9)) ∧ Aside0 (LogAt wr gl g gen at_ false) ∧ Aside0 (IsS71 w wr g s) ∧ Aside0 (Below w.heap.size w wr))
  case atStart => exact ⟨0, gen0, at0, s0, rfl, ⟨by have := HMM.out; omega⟩, ⟨by have h := HRUN.out; rwa [HMM.out] at h⟩, HL2, HI2, HB2⟩
  case round =>
    clear HL2 HI2 HB2 HRUN
    obtain ⟨i, gen, at_, s, rfl, HIK, HF, HL, HI, HB⟩ := hrel
    cases gk with
    | succ k1 =>
      have h := HF.out
      unfold supersRun at h
      obtain ⟨⟨e5, gen5, at5, dn5, s5⟩, happ, h⟩ := Option.bind_eq_some_iff.mp h
      dsimp only at h
      split at h
      case isFalse => cases h
      case isTrue hok =>
      obtain ⟨rfl, rfl⟩ := hok
      have HF1 := Aside0.mk h
      have HAP := Aside0.mk happ
      clear happ h HF
      have dlt : decide (i < kk) = true := decide_eq_true (by have := HIK.out; omega)
      have ei : wrap64 (i + 1) = i + 1 := by have := HIK.out; have := KB.out; unfold wrap64; omega
      have ew : IntKind.u8.wrap i = i := by have := HIK.out; have := KB.out; simp [IntKind.wrap, IntKind.bits, IntKind.signed]; omega
      have hb0 := heap_alloc_new wr (.cells #[.int .u8 i] 5)
      have hal : Below wr.heap.size wr (wr.alloc (.cells #[.int .u8 i] 5)) := below_alloc (Below.refl _ _) _
      have hca := log_checkpoint k gl g gen at_ false s (some ⟨wr.heap.size, 0, none⟩) 1 [i] 0 gen5 at5 false s5 w _ (HL.out.below hal) (HI.out.below hal) (below_weaken HB.out HB.out.size hal) HGE.out (fun W_ hk => full_block (xs := [i]) (hk.blk hb0 (by decide)) rfl (by simp)) (Nat.le_refl _) HAP.out
      have HCA := Aside0.mk hca
      clear hca hb0 hal
      go_wp2_with (go_at_call 37; refine HCA.out.mono ?_; rintro e w5 ⟨rfl, hl5, hi5, hb5, hk5⟩; have HL5 := Aside0.mk hl5; have HI5 := Aside0.mk hi5; have HB5 := Aside0.mk hb5; clear hl5 hi5 hb5 hk5)
      go_roundg k1
      case measure => omega
      case rel => exact ⟨i + 1, gen5, at5, s5, by go_num, ⟨by have := HIK.out; omega⟩, HF1, HL5, HI5, HB5⟩
    | zero =>
      have h := HF.out
      simp only [supersRun, Option.some.injEq, Prod.mk.injEq] at h
      obtain ⟨rfl, rfl, rfl⟩ := h
      have hqg := HQG.out.symm
      subst hqg
      have dlt : decide (i < kk) = false := decide_eq_false (by have := HIK.out; omega)
      clear HF
      go_upto_region 13 with fail
      clear dlt
      go_upto_region 14 with (go_at_call 38; refine (log_gen gl g gen at_ false _ HL.out).mono ?_; rintro e w' ⟨rfl, rfl⟩)
      go_wp2_with fail
      refine (sector_Disk_Read.calls g s (Int.tmod gen 2) bb be bs w wr HI.out HB.out HREAD.out).mono ?_
      rintro e w6 ⟨v6, rfl, ho, hi, hb, hk⟩
      obtain ⟨gB, cB, rfl, hgB, hltB, cells, hcB⟩ := Kd.R_form ho (by rw [HBL.out]; decide)
      have HGB := Aside0.mk (Nat.le_trans HB.out.size hgB)
      have HI6 := Aside0.mk hi
      have HB6 := Aside0.mk hb
      have HO6 := Aside0.mk ho
      have HCB := Aside0.mk hcB
      clear hi hb hk ho hgB hltB hcB HI HB HL
      have dl : ((bb.length : Int) != 64) = false := bne_eq_false_iff_eq.2 (by rw [HBL.out]; rfl)
      go_upto_region 17 with fail
      clear dl
      have tm := TM1.out
      have wr3 := WR3.out
      have p0 : 0 ≤ a1 % 64 := IB.out.1
      have q0 : a1 % 64 < (bb.length : Int) := by rw [HBL.out]; exact IB.out.2
      obtain ⟨hx, hf⟩ := Kd.R_celln (0 : Int) HO6.out (a1 % 64) p0 q0
      have HP := Aside0.mk (Kd.R_putg HO6.out (a1 % 64) (Go.bits .xor .u8 (rd bb (a1 % 64)) a2))
      replace hx : w6.cell? ⟨gB, (a1 % 64).toNat, none⟩ = some (.int .u8 (rd bb (a1 % 64))) := hx
      replace p0 := eq_true p0
      replace q0 := eq_true q0
      go_upto_region 18 with fail
      clear hx hf p0 q0 tm wr3
      have hsl : (spoil bb (a1 % 64) a2).length = bb.length := List.length_set
      have HI7 := Aside0.mk (HI6.out.frame (frame_far (p := ⟨gB, (a1 % 64).toNat, none⟩) (NP.blk HCB.out (by decide)) (.int .u8 (Go.bits .xor .u8 (rd bb (a1 % 64)) a2))))
      have HB7 := Aside0.mk (HB6.out.setCell (p := ⟨gB, (a1 % 64).toNat, none⟩) HGB.out (.int .u8 (Go.bits .xor .u8 (rd bb (a1 % 64)) a2)))
      have hrow := HP.out.1
      clear HI6 HB6 HO6 HCB HP
      generalize w6.setCell ⟨gB, (a1 % 64).toNat, none⟩ (.int .u8 (Go.bits .xor .u8 (rd bb (a1 % 64)) a2)) = w7 at hrow HI7 HB7 ⊢
      have hca := sector_Disk_Write.calls g bs (Int.tmod gen 2) (some ⟨gB, 0, none⟩) cB (spoil bb (a1 % 64) a2) xe xs w w7 HI7.out HB7.out (fun W_ hk => by rw [hsl]; exact C_ownR hrow (by decide) W_ hk) (by rw [hsl]; exact (Kd.R_reads' hrow).2.1) HWRITE.out
      rw [hsl] at hca
      have HCA := Aside0.mk hca
      clear hca hsl hrow
      go_upto_region 19 with (go_at_call 14; refine HCA.out.mono ?_; rintro e w8 ⟨rfl, hi, hb, hk⟩; have HI8 := Aside0.mk hi; have HB8 := Aside0.mk hb; clear hi hb hk HI7 HB7 HCA)
      go_upto_region 20 with (go_at_call 21; refine (sector_Disk_Flush.calls g xs ye ys w _ HI8.out HB8.out HFLUSH.out).mono ?_; rintro e w9 ⟨rfl, hi, hb, hk⟩; have HI9 := Aside0.mk hi; have HB9 := Aside0.mk hb; clear hi hb hk HI8 HB8)
      go_wp2_with fail
      refine (log_open k g ys qx kk qat 0 qs w w9 HI9.out HB9.out HOPEN2.out).mono ?_
      rintro e w10 ⟨lp2, v10, rfl, ⟨L, hR, hL⟩, hlog, hi, hb, _⟩
      rcases hlog with ⟨_, gm, rfl, hat, hge⟩ | ⟨h0, _⟩
      rotate_left
      · exact absurd rfl h0
      obtain ⟨B2, c2, rfl⟩ := Kd.R_slice hR
      have hl1 := hL.1
      have HCR := Aside0.mk (rows_C (c := c2) (n := 0) (A := none) (xs := []) (Kd.R_reads' hR).2.2 hL)
      have HCC := Aside0.mk (Kd.R_reads' hR).2.1
      have HI10 := Aside0.mk hi
      have HB10 := Aside0.mk hb
      have HL10 := Aside0.mk hat
      clear hi hb hat hR hL hge HI9 HB9
      rw [hl1] at HCC ⊢
      clear hl1
      go_upto_region 21 with fail
      have ew : wrap64 (kk - 2) = kk - 2 := by have := KB.out; unfold wrap64; omega
      rcases HFIN.out with ⟨hk1, hrows⟩ | ⟨hk1, hrows⟩
      · have dk : (kk == 1) = true := beq_iff_eq.2 hk1
        have HROWS := Aside0.mk hrows
        have hbA := below_alloc (below_alloc HB10.out (.cells #[.int .u8 (IntKind.u8.wrap (kk - 2))] 5)) (.cells #[.slice (some ⟨w10.heap.size, 0, none⟩) 1 1] 22)
        have hbB := below_alloc (below_alloc (Below.refl w10.heap.size w10) (.cells #[.int .u8 (IntKind.u8.wrap (kk - 2))] 5)) (.cells #[.slice (some ⟨w10.heap.size, 0, none⟩) 1 1] 22)
        have HBA := Aside0.mk hbA
        have HBB := Aside0.mk hbB
        have HCRA := Aside0.mk (Kd.C_below HCR.out hbB)
        clear hbA hbB hrows hk1 HFIN HCR
        go_upto_region 24 with fail
        have eg : wrap64 (kk + 1) = kk + 1 := by have := KB.out; unfold wrap64; omega
        have deg : (gen == kk + 1) = true := beq_iff_eq.2 HG9.out
        have hlm := HL10.out.below (below_alloc (below_alloc (Below.refl w10.heap.size w10) (.cells #[.int .u8 (IntKind.u8.wrap (kk - 2))] 5)) (.cells #[.slice (some ⟨w10.heap.size, 0, none⟩) 1 1] 22))
        have HLM := Aside0.mk hlm
        clear hlm
        go_wp2_with (first | (go_at_call 35; refine (HA.out _).mono ?_; rintro e w11 ⟨rfl, hb⟩; have HB11 := Aside0.mk (below_weaken HBA.out HBA.out.size hb); have HL11 := Aside0.mk (HLM.out.below hb); have HCR11 := Aside0.mk (Kd.C_below HCRA.out hb); clear hb) | (go_at_call 38; refine (log_gen gm g kk qat false _ HL11.out).mono ?_; rintro e w' ⟨rfl, rfl⟩) | (go_at_call 28; refine (interregnumref01_Rows.calls k B2 c2 qx none 0 [] true _ HCR11.out HCC.out (Kd.C_nil _ _) (Nat.le_refl _) HROWS.out).mono ?_; rintro e w12 ⟨rfl, hd⟩; have HB12 := Aside0.mk (below_weaken HB11.out HB11.out.size hd.below); clear hd))
        go_ret
        exact ⟨rfl, HB12.out⟩
      · have dk : (kk == 1) = false := beq_eq_false_iff_ne.2 (by omega)
        have HROWS := Aside0.mk hrows
        have ev : IntKind.u8.wrap (kk - 2) = kk - 2 := by have := KB.out; simp [IntKind.wrap, IntKind.bits, IntKind.signed]; omega
        have hblk1 := heap_alloc_new w10 (.cells #[.int .u8 (kk - 2)] 5)
        have hblk2 := heap_alloc_new (w10.alloc (.cells #[.int .u8 (kk - 2)] 5)) (.cells #[.slice (some ⟨w10.heap.size, 0, none⟩) 1 1] 22)
        have hblk1' := (below_alloc (Below.refl _ (w10.alloc (.cells #[.int .u8 (kk - 2)] 5))) (.cells #[.slice (some ⟨w10.heap.size, 0, none⟩) 1 1] 22)).block _ (blk_lt hblk1) |>.trans hblk1
        have hbA := below_alloc (below_alloc HB10.out (.cells #[.int .u8 (kk - 2)] 5)) (.cells #[.slice (some ⟨w10.heap.size, 0, none⟩) 1 1] 22)
        have hbB := below_alloc (below_alloc (Below.refl w10.heap.size w10) (.cells #[.int .u8 (kk - 2)] 5)) (.cells #[.slice (some ⟨w10.heap.size, 0, none⟩) 1 1] 22)
        have hC1 := lit_C (L := [(some ⟨w10.heap.size, 0, none⟩, 1, 1)]) (r := [[kk - 2]]) hblk2 rfl (by show 1 ≤ _; omega) (fun j p xs h1 h2 => by
          match j, h1, h2 with
          | 0, h1, h2 =>
            simp only [List.getElem?_cons_zero, Option.some.injEq] at h1 h2
            subst h1 h2
            exact ⟨rfl, Nat.le_refl _, full_block (xs := [kk - 2]) hblk1' rfl (by simp)⟩)
        rw [Go.Proofs.Ytpojfebecmjloaa.Help.alloc_size] at hC1
        have HW := Aside0.mk hC1
        have HBA := Aside0.mk hbA
        have HCRA := Aside0.mk (Kd.C_below HCR.out hbB)
        have HLM := Aside0.mk (HL10.out.below hbB)
        clear hblk1 hblk2 hblk1' hC1 hbA hbB hrows hk1 HFIN HCR
        go_upto_region 24 with fail
        have eg : wrap64 (kk + 1) = kk + 1 := by have := KB.out; unfold wrap64; omega
        have deg : (gen == kk + 1) = true := beq_iff_eq.2 HG9.out
        go_wp2_with (first | (go_at_call 35; refine (HA.out _).mono ?_; rintro e w11 ⟨rfl, hb⟩; have HB11 := Aside0.mk (below_weaken HBA.out HBA.out.size hb); have HL11 := Aside0.mk (HLM.out.below hb); have HCR11 := Aside0.mk (Kd.C_below HCRA.out hb); have HW11 := Aside0.mk (Kd.C_below HW.out hb); clear hb) | (go_at_call 38; refine (log_gen gm g kk qat false _ HL11.out).mono ?_; rintro e w' ⟨rfl, rfl⟩) | (go_at_call 28; refine (interregnumref01_Rows.calls k B2 c2 qx _ 1 [[kk - 2]] true _ HCR11.out HCC.out HW11.out (Nat.le_refl _) HROWS.out).mono ?_; rintro e w12 ⟨rfl, hd⟩; have HB12 := Aside0.mk (below_weaken HB11.out HB11.out.size hd.below); clear hd))
        go_ret
        exact ⟨rfl, HB12.out⟩


end Go.Proofs.Ytpojfebecmjloaa.PWalSupers
