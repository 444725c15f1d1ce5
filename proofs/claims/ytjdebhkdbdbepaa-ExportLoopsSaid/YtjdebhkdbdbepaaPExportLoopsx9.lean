-- Lean text by a program of this repo (wip/tools/printx.py), out of Lean's own print of the translation
import Derived.Shelf.Abstract
import Derived.RangeFuncLeaves
import Derived.RangeFuncCalls
import Derived.RangeFuncBound
import Derived.RangeFuncNested
import Derived.Test.YtjdebhkdbdbepaaOwn
import Derived.Test.YtjdebhkdbdbepaaInts
import Derived.Test.YtjdebhkdbdbepaaMid
import Derived.Test.YtjdebhkdbdbepaaHelp
import Derived.ArgAppend
import Derived.Test.YtjdebhkdbdbepaaPExportLoopsx0
import Derived.Test.YtjdebhkdbdbepaaPExportLoopsx1
import Derived.Test.YtjdebhkdbdbepaaPExportLoopsx3
import Derived.Test.YtjdebhkdbdbepaaPExportLoopsx4
import Derived.Test.YtjdebhkdbdbepaaPExportLoopsx5
import Derived.Test.YtjdebhkdbdbepaaPExportLoopsx6
import Derived.Test.YtjdebhkdbdbepaaPExportLoopsx7
import Derived.Test.YtjdebhkdbdbepaaPExportLoopsx8
namespace Go.Proofs.Ytjdebhkdbdbepaa.PExportLoops
open Go.RowKit Go.Proofs.YtjdebhkdbdbepaaW.PrintWords Go.Proofs.YtjdebhkdbdbepaaW.PrintLast Go.Proofs.YtjdebhkdbdbepaaW.PrintMore
attribute [local go_sem] max2_int min2_int max_two min_two max_three min_three max_four min_four   -- for this text's walks alone
set_option linter.unusedVariables false
set_option linter.unusedSimpArgs false

/-! ### interregnumlaw16_ExportLoops: function 4 -/
-- FN rounds=1 making=1
-- IMPORT Derived.ArgAppend
-- IMPORT Derived.Test.YtjdebhkdbdbepaaHelp
-- IMPORT Derived.Test.YtjdebhkdbdbepaaMid
-- IMPORT Derived.Test.YtjdebhkdbdbepaaInts
-- IMPORT Derived.Test.YtjdebhkdbdbepaaOwn
-- IMPORT Derived.RangeFuncNested
-- IMPORT Derived.RangeFuncBound
-- IMPORT Derived.RangeFuncCalls
-- IMPORT Derived.RangeFuncLeaves
-- IMPORT Derived.Shelf.Abstract
open Go.Proofs.Ytjdebhkdbdbepaa.Ints
open Go.Proofs.Ytjdebhkdbdbepaa.Own
open Go.Proofs.Ytjdebhkdbdbepaa.Help
set_option maxHeartbeats 4000000 in
set_option maxRecDepth 100000 in
open Go.Proofs.Ytjdebhkdbdbepaa.Mid in
theorem export_keep_true (k : Nat) (cA cI cN cH cG cL cS cD tN tA : Int) (AI : Option Addr) (nI cIn : Nat) (AO : Option Addr) (cOut : Nat) (lo : List S87) (ll : Bool) (pa pl pe o : Int) (A1 : Option Addr) (c1 : Nat) (l1 : List S69) (nx md pr : Int) (A5 : Option Addr) (c5 : Nat) (l5 : List Int) (A6 : Option Addr) (c6 : Nat) (l6 : List S73) (st fr : Int) (rp : Int) (al gd : Bool) (w : World) (hro : Kd.C k87 w AO lo.length lo) (hco : lo.length ≤ cOut) (hr1 : Kd.C k69 w A1 l1.length l1) (hc1 : l1.length ≤ c1) (hr5 : Kd.C (Kd.int .u32) w A5 l5.length l5) (hc5 : l5.length ≤ c5) (hr6 : Kd.C k73 w A6 l6.length l6) (hc6 : l6.length ≤ c6) (hp : policy_Apply.f lo pa pl = some (rp, al)) (h4 : l1.length < 4000) (hd1 : ∀ y ∈ l1, slices_Clone_int_int.f y.f1 = some y.f1) (h4y : ∀ y ∈ l1, y.f1.length < 4000) (h5 : slices_Clone_uint32_uint32.f l5 = some l5) (h6 : l6.length < 4000) (hd : ∀ r ∈ l6, bytes_Clone.f r.f2 = some r.f2) (hst : stopB cA tN tA al ll pe st fr = false) (heq : tA = cA) (hpr_ : pr ≠ -1) (hg_ : attr_Good.f k o l1 nx md pr l5 l6 = some true) :
    Calls Try.prog 10 #[.agg #[.int .i64 cA, .int .u32 cI, .int .u32 cN, .int .i64 cH, .int .i64 cG, .int .i64 cL, .int .i64 cS, .int .i64 cD], .agg #[.int .i64 tN, .int .i64 tA, .slice AI nI cIn, .slice AO lo.length cOut], .bool ll, .agg #[.int .u32 pa, .int .i64 pl, .int .i64 pe, .int .i64 o, .slice A1 l1.length c1, .int .u32 nx, .int .i64 md, .int .i64 pr, .slice A5 l5.length c5, .slice A6 l6.length c6, .int .i64 st], .int .i64 fr] w fun e w' => ∃ (X1 : Option Addr) (y1 : Nat) (X5 X6 : Option Addr), e = .returned (.tuple #[.agg #[.int .i64 o, .slice X1 l1.length y1, .int .u32 nx, .int .i64 md, .int .i64 pr, .slice X5 l5.length l5.length, .slice X6 l6.length l6.length], .bool true]) ∧ l1.length ≤ y1 ∧ Kd.C k69 w' X1 l1.length l1 ∧ Kd.C (Kd.int .u32) w' X5 l5.length l5 ∧ Kd.C k73 w' X6 l6.length l6 ∧ Below w.heap.size w w' := by
  have HST := Aside0.mk hst
  have H4 := Aside0.mk h4
  have HD1 := Aside0.mk hd1
  have H4Y := Aside0.mk h4y
  have H5 := Aside0.mk h5
  have H6 := Aside0.mk h6
  have HD := Aside0.mk hd
  clear hst h4 hd1 h4y h5 h6 hd
  have HG := Aside0.mk hg_
  clear hg_
  have HEQ := Aside0.mk heq
  have HPR := Aside0.mk hpr_
  clear heq hpr_
  have HRO := Aside0.mk hro
  have HCO := Aside0.mk hco
  have HR1 := Aside0.mk hr1
  have HR5 := Aside0.mk hr5
  have HR6 := Aside0.mk hr6
  have HC := Aside0.mk (And.intro hc1 (And.intro hc5 hc6))
  have HP := Aside0.mk hp
  have hu24 := Try.underlying24
  have hu27 := Try.underlying27
  have hu36 := Try.underlying36
  have hu34 := Try.underlying34
  have hu29 := Try.underlying29
  have HB := Aside0.mk (Below.refl w.heap.size w)
  clear hro hco hr1 hc1 hr5 hc5 hr6 hc6 hp
  go_enter Try.func10, Try.ntmps10
  go_upto_region 2 with (first | ((with_reducible refine gate_dst (N := 5) rfl ?_); refine box_event ?hg (N := 5) ?hd (cs := #[.int .i64 cA, .int .u32 cI, .int .u32 cN, .int .i64 cH, .int .i64 cG, .int .i64 cL, .int .i64 cS, .int .i64 cD]) (t := 24) ?hr ?_; (case hd => rfl); (case hg => rfl); (case hr => first | (go_simp; done) | (go_simp; rfl)); intro gc hg w1 hbox hb; have HB1 := Aside0.mk (below_step HB.out hb); have BKC1 := Aside0.mk hbox; have GEC := Aside0.mk (show w.heap.size ≤ gc from by rw [hg]; exact Nat.le_refl _); clear hbox hb hg) | ((with_reducible refine gate_dst (N := 6) rfl ?_); refine box_event ?hg (N := 6) ?hd (cs := #[.int .i64 tN, .int .i64 tA, .slice AI nI cIn, .slice AO lo.length cOut]) (t := 27) ?hr ?_; (case hd => rfl); (case hg => rfl); (case hr => first | (go_simp; done) | (go_simp; rfl)); intro gt hg w2 hbox hb; have BKC2 := Aside0.mk ((hb.block _ (blk_lt BKC1.out)).trans BKC1.out); have HB2 := Aside0.mk (below_step HB1.out hb); have BKT2 := Aside0.mk hbox; have GET := Aside0.mk (show gc < gt from by rw [hg]; exact blk_lt BKC1.out); clear hbox hb hg) | ((with_reducible refine gate_dst (N := 8) rfl ?_); refine box_event ?hg (N := 8) ?hd (cs := #[.int .u32 pa, .int .i64 pl, .int .i64 pe, .int .i64 o, .slice A1 l1.length c1, .int .u32 nx, .int .i64 md, .int .i64 pr, .slice A5 l5.length c5, .slice A6 l6.length c6, .int .i64 st]) (t := 36) ?hr ?_; (case hd => rfl); (case hg => rfl); (case hr => first | (go_simp; done) | (go_simp; rfl)); intro gr hg w3 hbox hb; have BKC3 := Aside0.mk ((hb.block _ (blk_lt BKC2.out)).trans BKC2.out); have BKT3 := Aside0.mk ((hb.block _ (blk_lt BKT2.out)).trans BKT2.out); have HB3 := Aside0.mk (below_step HB2.out hb); have BKR3 := Aside0.mk hbox; have GER := Aside0.mk (show gt < gr from by rw [hg]; exact blk_lt BKT2.out); clear hbox hb hg) | ((with_reducible refine gate_dst (N := 10) rfl ?_); refine box_event ?hg (N := 10) ?hd (cs := #[.int .i64 0, .slice none 0 0, .int .u32 0, .int .i64 0, .int .i64 0, .slice none 0 0, .slice none 0 0]) (t := 34) ?hr ?_; (case hd => rfl); (case hg => rfl); (case hr => first | (go_simp; done) | (go_simp; rfl)); intro ga hg w4 hbox hb; have BKC4 := Aside0.mk ((hb.block _ (blk_lt BKC3.out)).trans BKC3.out); have BKT4 := Aside0.mk ((hb.block _ (blk_lt BKT3.out)).trans BKT3.out); have BKR4 := Aside0.mk ((hb.block _ (blk_lt BKR3.out)).trans BKR3.out); have HB4 := Aside0.mk (below_step HB3.out hb); have BKA4 := Aside0.mk hbox; have GEA := Aside0.mk (show gr < ga from by rw [hg]; exact blk_lt BKR3.out); have hq3 : w4.cell? ⟨gt, 3, none⟩ = some (.slice AO lo.length cOut) := (blk_cell BKT4.out 3).trans rfl; have hp0 : w4.cell? ⟨gr, 0, none⟩ = some (.int .u32 pa) := (blk_cell BKR4.out 0).trans rfl; have hp1 : w4.cell? ⟨gr, 1, none⟩ = some (.int .i64 pl) := (blk_cell BKR4.out 1).trans rfl; clear hbox hb hg) | (go_at_call 23; with_reducible refine (policy_Apply.calls AO cOut lo pa pl rp al _ (Kd.C_below HRO.out HB4.out) HCO.out HP.out).mono ?_; rintro e w5 ⟨rfl, hb⟩; have BKC5 := Aside0.mk ((hb.block _ (blk_lt BKC4.out)).trans BKC4.out); have BKT5 := Aside0.mk ((hb.block _ (blk_lt BKT4.out)).trans BKT4.out); have BKR5 := Aside0.mk ((hb.block _ (blk_lt BKR4.out)).trans BKR4.out); have BKA5 := Aside0.mk ((hb.block _ (blk_lt BKA4.out)).trans BKA4.out); have HB5 := Aside0.mk (below_step HB4.out hb); clear hb hq3 hp0 hp1))
  have hC0 : w5.cell? ⟨gc, 0, none⟩ = some (.int .i64 cA) := (blk_cell BKC5.out 0).trans rfl
  have hC2 : w5.cell? ⟨gc, 2, none⟩ = some (.int .u32 cN) := (blk_cell BKC5.out 2).trans rfl
  have hT0 : w5.cell? ⟨gt, 0, none⟩ = some (.int .i64 tN) := (blk_cell BKT5.out 0).trans rfl
  have hT1 : w5.cell? ⟨gt, 1, none⟩ = some (.int .i64 tA) := (blk_cell BKT5.out 1).trans rfl
  have hR2 : w5.cell? ⟨gr, 2, none⟩ = some (.int .i64 pe) := (blk_cell BKR5.out 2).trans rfl
  have hR10 : w5.cell? ⟨gr, 10, none⟩ = some (.int .i64 st) := (blk_cell BKR5.out 10).trans rfl
  go_cut [14] (fun v14 wc => v14 = .bool (decide (0 ≤ pe) && (fr == cA) && (tA == cA)) ∧ wc = w5)
  case first =>
    rcases e1 : decide (0 ≤ pe) with _ | _
    · go_wp2
      go_meet
      case rel => exact ⟨by simp [e1], rfl⟩
    · rcases e2 : (fr == cA) with _ | _
      · go_wp2
        go_meet
        case rel => exact ⟨by simp [e1, e2], rfl⟩
      · rcases e3 : (tA == cA) with _ | _
        · go_wp2
          go_meet
          case rel => exact ⟨by simp [e1, e2, e3], rfl⟩
        · go_wp2
          go_meet
          case rel => exact ⟨by simp [e1, e2, e3], rfl⟩
  case rest =>
    obtain ⟨rfl, hwc⟩ := hcut
    have hwc := hwc.symm
    subst hwc
    obtain ⟨win, hwin⟩ : ∃ b : Bool, b = (decide (0 ≤ pe) && (fr == cA) && (tA == cA)) := ⟨_, rfl⟩
    rw [← hwin]
    have HWN := Aside0.mk hwin
    clear hwin
    go_upto_region 3 with (fail)
    go_cut [60] (fun v60 wc => v60 = .bool ((pe == tN) || (win || (!al || ((st == 2) && !ll)))) ∧ wc = w5)
    case first =>
      rcases e4 : (pe == tN) with _ | _
      · rcases win with _ | _
        · rcases al with _ | _
          · go_wp2
            go_meet
            case rel => exact ⟨by simp [e4], rfl⟩
          · rcases e5 : (st == 2) with _ | _
            · go_wp2
              go_meet
              case rel => exact ⟨by simp [e4, e5], rfl⟩
            · rcases ll with _ | _
              · go_wp2
                go_meet
                case rel => exact ⟨by simp [e4, e5], rfl⟩
              · go_wp2
                go_meet
                case rel => exact ⟨by simp [e4, e5], rfl⟩
        · go_wp2
          go_meet
          case rel => exact ⟨by simp [e4], rfl⟩
      · go_wp2
        go_meet
        case rel => exact ⟨by simp [e4], rfl⟩
    case rest =>
      obtain ⟨rfl, hwc⟩ := hcut
      have hwc := hwc.symm
      subst hwc
      rw [show ((pe == tN) || (win || (!al || ((st == 2) && !ll)))) = false from by rw [HWN.out]; exact HST.out]
      go_upto_region 6 with (first | ((with_reducible refine gate_dst (N := 63) rfl ?_); (try (refine gate_guard (by rfl) ?_; dsimp only)); refine load_blk rfl 34 (.tmp 62) rfl (g := gr) (off := 3) [.int .i64 o, .slice A1 l1.length c1, .int .u32 nx, .int .i64 md, .int .i64 pr, .slice A5 l5.length c5, .slice A6 l6.length c6] _ rfl BKR5.out (seven_x pa pl pe o A1 l1.length c1 nx md pr A5 l5.length c5 A6 l6.length c6 st) Try.underlying34 rfl (by kernel_rfl) ?_) | (go_at_call 24; with_reducible refine (attr_own o A1 c1 l1 nx md pr A5 c5 l5 A6 c6 l6 _ (Kd.C_below HR1.out HB5.out) HC.out.1 (Kd.C_below HR5.out HB5.out) HC.out.2.1 (Kd.C_below HR6.out HB5.out) HC.out.2.2 H4.out HD1.out H5.out H6.out HD.out).mono ?_; rintro e w6 ⟨B1, d1, d1', B5, d5', B6, d6', rfl, hl1, hq1, hq5, hq6, hb⟩; have BKC6 := Aside0.mk ((hb.block _ (blk_lt BKC5.out)).trans BKC5.out); have BKT6 := Aside0.mk ((hb.block _ (blk_lt BKT5.out)).trans BKT5.out); have BKA6 := Aside0.mk ((hb.block _ (blk_lt BKA5.out)).trans BKA5.out); have HB6 := Aside0.mk (below_step HB5.out hb); have HL1 := Aside0.mk hl1; have HAT6 := Aside0.mk (attrsAt_mk hq1 hq5 hq6); clear hl1 hq1 hq5 hq6 hb) | ((with_reducible refine gate_dst (N := 15) rfl ?_); refine box_event ?hg (N := 15) ?hd (cs := #[.int .i64 0, .slice none 0 0, .int .u32 0, .int .i64 0, .int .i64 0, .slice none 0 0, .slice none 0 0]) (t := 34) ?hr ?_; (case hd => rfl); (case hg => rfl); (case hr => first | (go_simp; done) | (go_simp; rfl)); intro gb hg w7 hbox hb; have BKC7 := Aside0.mk ((hb.block _ (blk_lt BKC6.out)).trans BKC6.out); have BKT7 := Aside0.mk ((hb.block _ (blk_lt BKT6.out)).trans BKT6.out); have BKA7 := Aside0.mk ((hb.block _ (blk_lt BKA6.out)).trans BKA6.out); have HB7 := Aside0.mk (below_step HB6.out hb); have BKB7 := Aside0.mk hbox; have GEB := Aside0.mk (show ga < gb from by rw [hg]; exact blk_lt BKA6.out); have HGT := Aside0.mk (show gt < gb from by rw [hg]; exact blk_lt BKT6.out); have HGC := Aside0.mk (show gc < gb from by rw [hg]; exact blk_lt BKC6.out); have HAT7 := Aside0.mk (AttrsAt.below HAT6.out hb); clear hbox hb hg) | ((with_reducible refine gate_store (t := 34) (p := 15) rfl ?_); refine store_new rfl 34 (.tmp 15) (.tmp 64) rfl [.int .i64 o, .slice B1 l1.length d1, .int .u32 nx, .int .i64 md, .int .i64 pr, .slice B5 l5.length l5.length, .slice B6 l6.length l6.length] (by rfl) (by rfl) BKB7.out (by rfl) (by kernel_rfl) (by intro v hv; simp only [List.mem_cons, List.not_mem_nil, or_false] at hv; rcases hv with rfl | rfl | rfl | rfl | rfl | rfl | rfl <;> rfl) ?_; intro w8 hx hg hs; have BKB8 := Aside0.mk hx; have BKA8 := Aside0.mk ((hg.block _ (blk_lt BKA7.out) (fun e => by injection e with e; have := GEB.out; omega)).trans BKA7.out); have BKT8 := Aside0.mk ((hg.block _ (blk_lt BKT7.out) (fun e => by injection e with e; have := HGT.out; omega)).trans BKT7.out); have BKC8 := Aside0.mk ((hg.block _ (blk_lt BKC7.out) (fun e => by injection e with e; have := HGC.out; omega)).trans BKC7.out); have HB8 := Aside0.mk (HB7.out.grown hg HB7.out.size (fun k e => by injection e with e; have := GEC.out; have := HGC.out; omega)); have HAT8 := Aside0.mk (AttrsAt.grown HAT7.out hg BKB7.out); clear hx hg hs))
      have hc0 : w8.cell? ⟨gc, 0, none⟩ = some (.int .i64 cA) := (blk_cell BKC8.out 0).trans rfl
      have ht1 : w8.cell? ⟨gt, 1, none⟩ = some (.int .i64 tA) := (blk_cell BKT8.out 1).trans rfl
      have e3 : (tA == cA) = true := beq_iff_eq.mpr HEQ.out
      have e3n : (tA != cA) = false := by simp [HEQ.out]
      have hpr : (pr == -1) = false := beq_eq_false_iff_ne.mpr HPR.out
      have hb4 : w8.cell? ⟨gb, 4, none⟩ = some (.int .i64 pr) := (blk_cell BKB8.out 4).trans rfl
      have HKL := HL1
      go_upto_region 10 with (fail)
      clear hc0 ht1 hb4 e3 e3n hpr
      have HK1 := Aside0.mk (AttrsAt.c1 HAT8.out)
      have HK5 := Aside0.mk (AttrsAt.c5 HAT8.out)
      have HK6 := Aside0.mk (AttrsAt.c6 HAT8.out)
      go_wp2_with (first | ((with_reducible refine gate_dst (N := 85) rfl ?_); (try (refine gate_guard (by rfl) ?_; dsimp only)); refine load_blk rfl 34 (.tmp 15) rfl (g := gb) (off := 0) [.int .i64 o, .slice B1 l1.length d1, .int .u32 nx, .int .i64 md, .int .i64 pr, .slice B5 l5.length l5.length, .slice B6 l6.length l6.length] _ rfl BKB8.out (self_x _) Try.underlying34 rfl (by kernel_rfl) ?_) | (go_at_call 26; with_reducible refine (attr_Good.calls k o B1 d1 l1 nx md pr B5 l5.length l5 B6 l6.length l6 true _ HK1.out HKL.out HK5.out (Nat.le_refl _) HK6.out (Nat.le_refl _) HG.out).mono ?_; rintro e w12 ⟨rfl, hb⟩; have BKAG := Aside0.mk ((hb.block _ (blk_lt BKA8.out)).trans BKA8.out); have BKBG := Aside0.mk ((hb.block _ (blk_lt BKB8.out)).trans BKB8.out); have HBG := Aside0.mk (below_step HB8.out hb); have HM1 := Aside0.mk (Kd.C_below HK1.out hb); have HM5 := Aside0.mk (Kd.C_below HK5.out hb); have HM6 := Aside0.mk (Kd.C_below HK6.out hb); have HATG := Aside0.mk (AttrsAt.below HAT8.out hb); clear hb) | ((with_reducible refine gate_dst (N := 89) rfl ?_); (try (refine gate_guard (by rfl) ?_; dsimp only)); refine load_blk rfl 34 (.tmp 15) rfl (g := gb) (off := 0) [.int .i64 o, .slice B1 l1.length d1, .int .u32 nx, .int .i64 md, .int .i64 pr, .slice B5 l5.length l5.length, .slice B6 l6.length l6.length] _ rfl BKBG.out (self_x _) Try.underlying34 rfl (by kernel_rfl) ?_) | ((with_reducible refine gate_store (t := 34) (p := 10) rfl ?_); refine store_new rfl 34 (.tmp 10) (.tmp 89) rfl [.int .i64 o, .slice B1 l1.length d1, .int .u32 nx, .int .i64 md, .int .i64 pr, .slice B5 l5.length l5.length, .slice B6 l6.length l6.length] (by rfl) (by rfl) BKAG.out (by rfl) (by kernel_rfl) (by intro v hv; simp only [List.mem_cons, List.not_mem_nil, or_false] at hv; rcases hv with rfl | rfl | rfl | rfl | rfl | rfl | rfl <;> rfl) ?_; intro w13 hx hg hs; have BKF := Aside0.mk hx; have HBF := Aside0.mk (HBG.out.grown hg HBG.out.size (fun k e => by injection e with e; have := GEC.out; have := GET.out; have := GER.out; have := GEA.out; have := GEB.out; omega)); have HATF := Aside0.mk (AttrsAt.grown HATG.out hg BKAG.out); clear hx hg hs))
      refine bodyPost_ret (results_ct rfl _ _ ga 34 #[.int .i64 o, .slice B1 l1.length d1, .int .u32 nx, .int .i64 md, .int .i64 pr, .slice B5 l5.length l5.length, .slice B6 l6.length l6.length] (0, 0) _ rfl BKF.out Try.underlying34 rfl (by kernel_rfl)) rfl ?_
      exact ⟨B1, d1, B5, B6, rfl, HKL.out, AttrsAt.c1 HATF.out, AttrsAt.c5 HATF.out, AttrsAt.c6 HATF.out, HBF.out⟩
set_option maxHeartbeats 4000000 in
set_option maxRecDepth 100000 in
open Go.Proofs.Ytjdebhkdbdbepaa.Mid in
theorem export_keep_false (k : Nat) (cA cI cN cH cG cL cS cD tN tA : Int) (AI : Option Addr) (nI cIn : Nat) (AO : Option Addr) (cOut : Nat) (lo : List S87) (ll : Bool) (pa pl pe o : Int) (A1 : Option Addr) (c1 : Nat) (l1 : List S69) (nx md pr : Int) (A5 : Option Addr) (c5 : Nat) (l5 : List Int) (A6 : Option Addr) (c6 : Nat) (l6 : List S73) (st fr : Int) (rp : Int) (al gd : Bool) (w : World) (hro : Kd.C k87 w AO lo.length lo) (hco : lo.length ≤ cOut) (hr1 : Kd.C k69 w A1 l1.length l1) (hc1 : l1.length ≤ c1) (hr5 : Kd.C (Kd.int .u32) w A5 l5.length l5) (hc5 : l5.length ≤ c5) (hr6 : Kd.C k73 w A6 l6.length l6) (hc6 : l6.length ≤ c6) (hp : policy_Apply.f lo pa pl = some (rp, al)) (h4 : l1.length < 4000) (hd1 : ∀ y ∈ l1, slices_Clone_int_int.f y.f1 = some y.f1) (h4y : ∀ y ∈ l1, y.f1.length < 4000) (h5 : slices_Clone_uint32_uint32.f l5 = some l5) (h6 : l6.length < 4000) (hd : ∀ r ∈ l6, bytes_Clone.f r.f2 = some r.f2) (hst : stopB cA tN tA al ll pe st fr = false) (heq : tA = cA) (hpr_ : pr ≠ -1) (hg_ : attr_Good.f k o l1 nx md pr l5 l6 = some false) :
    Calls Try.prog 10 #[.agg #[.int .i64 cA, .int .u32 cI, .int .u32 cN, .int .i64 cH, .int .i64 cG, .int .i64 cL, .int .i64 cS, .int .i64 cD], .agg #[.int .i64 tN, .int .i64 tA, .slice AI nI cIn, .slice AO lo.length cOut], .bool ll, .agg #[.int .u32 pa, .int .i64 pl, .int .i64 pe, .int .i64 o, .slice A1 l1.length c1, .int .u32 nx, .int .i64 md, .int .i64 pr, .slice A5 l5.length c5, .slice A6 l6.length c6, .int .i64 st], .int .i64 fr] w fun e w' => e = .returned (.tuple #[.agg #[.int .i64 0, .slice none 0 0, .int .u32 0, .int .i64 0, .int .i64 0, .slice none 0 0, .slice none 0 0], .bool false]) ∧ Below w.heap.size w w' := by
  have HST := Aside0.mk hst
  have H4 := Aside0.mk h4
  have HD1 := Aside0.mk hd1
  have H4Y := Aside0.mk h4y
  have H5 := Aside0.mk h5
  have H6 := Aside0.mk h6
  have HD := Aside0.mk hd
  clear hst h4 hd1 h4y h5 h6 hd
  have HG := Aside0.mk hg_
  clear hg_
  have HEQ := Aside0.mk heq
  have HPR := Aside0.mk hpr_
  clear heq hpr_
  have HRO := Aside0.mk hro
  have HCO := Aside0.mk hco
  have HR1 := Aside0.mk hr1
  have HR5 := Aside0.mk hr5
  have HR6 := Aside0.mk hr6
  have HC := Aside0.mk (And.intro hc1 (And.intro hc5 hc6))
  have HP := Aside0.mk hp
  have hu24 := Try.underlying24
  have hu27 := Try.underlying27
  have hu36 := Try.underlying36
  have hu34 := Try.underlying34
  have hu29 := Try.underlying29
  have HB := Aside0.mk (Below.refl w.heap.size w)
  clear hro hco hr1 hc1 hr5 hc5 hr6 hc6 hp
  go_enter Try.func10, Try.ntmps10
  go_upto_region 2 with (first | ((with_reducible refine gate_dst (N := 5) rfl ?_); refine box_event ?hg (N := 5) ?hd (cs := #[.int .i64 cA, .int .u32 cI, .int .u32 cN, .int .i64 cH, .int .i64 cG, .int .i64 cL, .int .i64 cS, .int .i64 cD]) (t := 24) ?hr ?_; (case hd => rfl); (case hg => rfl); (case hr => first | (go_simp; done) | (go_simp; rfl)); intro gc hg w1 hbox hb; have HB1 := Aside0.mk (below_step HB.out hb); have BKC1 := Aside0.mk hbox; have GEC := Aside0.mk (show w.heap.size ≤ gc from by rw [hg]; exact Nat.le_refl _); clear hbox hb hg) | ((with_reducible refine gate_dst (N := 6) rfl ?_); refine box_event ?hg (N := 6) ?hd (cs := #[.int .i64 tN, .int .i64 tA, .slice AI nI cIn, .slice AO lo.length cOut]) (t := 27) ?hr ?_; (case hd => rfl); (case hg => rfl); (case hr => first | (go_simp; done) | (go_simp; rfl)); intro gt hg w2 hbox hb; have BKC2 := Aside0.mk ((hb.block _ (blk_lt BKC1.out)).trans BKC1.out); have HB2 := Aside0.mk (below_step HB1.out hb); have BKT2 := Aside0.mk hbox; have GET := Aside0.mk (show gc < gt from by rw [hg]; exact blk_lt BKC1.out); clear hbox hb hg) | ((with_reducible refine gate_dst (N := 8) rfl ?_); refine box_event ?hg (N := 8) ?hd (cs := #[.int .u32 pa, .int .i64 pl, .int .i64 pe, .int .i64 o, .slice A1 l1.length c1, .int .u32 nx, .int .i64 md, .int .i64 pr, .slice A5 l5.length c5, .slice A6 l6.length c6, .int .i64 st]) (t := 36) ?hr ?_; (case hd => rfl); (case hg => rfl); (case hr => first | (go_simp; done) | (go_simp; rfl)); intro gr hg w3 hbox hb; have BKC3 := Aside0.mk ((hb.block _ (blk_lt BKC2.out)).trans BKC2.out); have BKT3 := Aside0.mk ((hb.block _ (blk_lt BKT2.out)).trans BKT2.out); have HB3 := Aside0.mk (below_step HB2.out hb); have BKR3 := Aside0.mk hbox; have GER := Aside0.mk (show gt < gr from by rw [hg]; exact blk_lt BKT2.out); clear hbox hb hg) | ((with_reducible refine gate_dst (N := 10) rfl ?_); refine box_event ?hg (N := 10) ?hd (cs := #[.int .i64 0, .slice none 0 0, .int .u32 0, .int .i64 0, .int .i64 0, .slice none 0 0, .slice none 0 0]) (t := 34) ?hr ?_; (case hd => rfl); (case hg => rfl); (case hr => first | (go_simp; done) | (go_simp; rfl)); intro ga hg w4 hbox hb; have BKC4 := Aside0.mk ((hb.block _ (blk_lt BKC3.out)).trans BKC3.out); have BKT4 := Aside0.mk ((hb.block _ (blk_lt BKT3.out)).trans BKT3.out); have BKR4 := Aside0.mk ((hb.block _ (blk_lt BKR3.out)).trans BKR3.out); have HB4 := Aside0.mk (below_step HB3.out hb); have BKA4 := Aside0.mk hbox; have GEA := Aside0.mk (show gr < ga from by rw [hg]; exact blk_lt BKR3.out); have hq3 : w4.cell? ⟨gt, 3, none⟩ = some (.slice AO lo.length cOut) := (blk_cell BKT4.out 3).trans rfl; have hp0 : w4.cell? ⟨gr, 0, none⟩ = some (.int .u32 pa) := (blk_cell BKR4.out 0).trans rfl; have hp1 : w4.cell? ⟨gr, 1, none⟩ = some (.int .i64 pl) := (blk_cell BKR4.out 1).trans rfl; clear hbox hb hg) | (go_at_call 23; with_reducible refine (policy_Apply.calls AO cOut lo pa pl rp al _ (Kd.C_below HRO.out HB4.out) HCO.out HP.out).mono ?_; rintro e w5 ⟨rfl, hb⟩; have BKC5 := Aside0.mk ((hb.block _ (blk_lt BKC4.out)).trans BKC4.out); have BKT5 := Aside0.mk ((hb.block _ (blk_lt BKT4.out)).trans BKT4.out); have BKR5 := Aside0.mk ((hb.block _ (blk_lt BKR4.out)).trans BKR4.out); have BKA5 := Aside0.mk ((hb.block _ (blk_lt BKA4.out)).trans BKA4.out); have HB5 := Aside0.mk (below_step HB4.out hb); clear hb hq3 hp0 hp1))
  have hC0 : w5.cell? ⟨gc, 0, none⟩ = some (.int .i64 cA) := (blk_cell BKC5.out 0).trans rfl
  have hC2 : w5.cell? ⟨gc, 2, none⟩ = some (.int .u32 cN) := (blk_cell BKC5.out 2).trans rfl
  have hT0 : w5.cell? ⟨gt, 0, none⟩ = some (.int .i64 tN) := (blk_cell BKT5.out 0).trans rfl
  have hT1 : w5.cell? ⟨gt, 1, none⟩ = some (.int .i64 tA) := (blk_cell BKT5.out 1).trans rfl
  have hR2 : w5.cell? ⟨gr, 2, none⟩ = some (.int .i64 pe) := (blk_cell BKR5.out 2).trans rfl
  have hR10 : w5.cell? ⟨gr, 10, none⟩ = some (.int .i64 st) := (blk_cell BKR5.out 10).trans rfl
  go_cut [14] (fun v14 wc => v14 = .bool (decide (0 ≤ pe) && (fr == cA) && (tA == cA)) ∧ wc = w5)
  case first =>
    rcases e1 : decide (0 ≤ pe) with _ | _
    · go_wp2
      go_meet
      case rel => exact ⟨by simp [e1], rfl⟩
    · rcases e2 : (fr == cA) with _ | _
      · go_wp2
        go_meet
        case rel => exact ⟨by simp [e1, e2], rfl⟩
      · rcases e3 : (tA == cA) with _ | _
        · go_wp2
          go_meet
          case rel => exact ⟨by simp [e1, e2, e3], rfl⟩
        · go_wp2
          go_meet
          case rel => exact ⟨by simp [e1, e2, e3], rfl⟩
  case rest =>
    obtain ⟨rfl, hwc⟩ := hcut
    have hwc := hwc.symm
    subst hwc
    obtain ⟨win, hwin⟩ : ∃ b : Bool, b = (decide (0 ≤ pe) && (fr == cA) && (tA == cA)) := ⟨_, rfl⟩
    rw [← hwin]
    have HWN := Aside0.mk hwin
    clear hwin
    go_upto_region 3 with (fail)
    go_cut [60] (fun v60 wc => v60 = .bool ((pe == tN) || (win || (!al || ((st == 2) && !ll)))) ∧ wc = w5)
    case first =>
      rcases e4 : (pe == tN) with _ | _
      · rcases win with _ | _
        · rcases al with _ | _
          · go_wp2
            go_meet
            case rel => exact ⟨by simp [e4], rfl⟩
          · rcases e5 : (st == 2) with _ | _
            · go_wp2
              go_meet
              case rel => exact ⟨by simp [e4, e5], rfl⟩
            · rcases ll with _ | _
              · go_wp2
                go_meet
                case rel => exact ⟨by simp [e4, e5], rfl⟩
              · go_wp2
                go_meet
                case rel => exact ⟨by simp [e4, e5], rfl⟩
        · go_wp2
          go_meet
          case rel => exact ⟨by simp [e4], rfl⟩
      · go_wp2
        go_meet
        case rel => exact ⟨by simp [e4], rfl⟩
    case rest =>
      obtain ⟨rfl, hwc⟩ := hcut
      have hwc := hwc.symm
      subst hwc
      rw [show ((pe == tN) || (win || (!al || ((st == 2) && !ll)))) = false from by rw [HWN.out]; exact HST.out]
      go_upto_region 6 with (first | ((with_reducible refine gate_dst (N := 63) rfl ?_); (try (refine gate_guard (by rfl) ?_; dsimp only)); refine load_blk rfl 34 (.tmp 62) rfl (g := gr) (off := 3) [.int .i64 o, .slice A1 l1.length c1, .int .u32 nx, .int .i64 md, .int .i64 pr, .slice A5 l5.length c5, .slice A6 l6.length c6] _ rfl BKR5.out (seven_x pa pl pe o A1 l1.length c1 nx md pr A5 l5.length c5 A6 l6.length c6 st) Try.underlying34 rfl (by kernel_rfl) ?_) | (go_at_call 24; with_reducible refine (attr_own o A1 c1 l1 nx md pr A5 c5 l5 A6 c6 l6 _ (Kd.C_below HR1.out HB5.out) HC.out.1 (Kd.C_below HR5.out HB5.out) HC.out.2.1 (Kd.C_below HR6.out HB5.out) HC.out.2.2 H4.out HD1.out H5.out H6.out HD.out).mono ?_; rintro e w6 ⟨B1, d1, d1', B5, d5', B6, d6', rfl, hl1, hq1, hq5, hq6, hb⟩; have BKC6 := Aside0.mk ((hb.block _ (blk_lt BKC5.out)).trans BKC5.out); have BKT6 := Aside0.mk ((hb.block _ (blk_lt BKT5.out)).trans BKT5.out); have BKA6 := Aside0.mk ((hb.block _ (blk_lt BKA5.out)).trans BKA5.out); have HB6 := Aside0.mk (below_step HB5.out hb); have HL1 := Aside0.mk hl1; have HAT6 := Aside0.mk (attrsAt_mk hq1 hq5 hq6); clear hl1 hq1 hq5 hq6 hb) | ((with_reducible refine gate_dst (N := 15) rfl ?_); refine box_event ?hg (N := 15) ?hd (cs := #[.int .i64 0, .slice none 0 0, .int .u32 0, .int .i64 0, .int .i64 0, .slice none 0 0, .slice none 0 0]) (t := 34) ?hr ?_; (case hd => rfl); (case hg => rfl); (case hr => first | (go_simp; done) | (go_simp; rfl)); intro gb hg w7 hbox hb; have BKC7 := Aside0.mk ((hb.block _ (blk_lt BKC6.out)).trans BKC6.out); have BKT7 := Aside0.mk ((hb.block _ (blk_lt BKT6.out)).trans BKT6.out); have BKA7 := Aside0.mk ((hb.block _ (blk_lt BKA6.out)).trans BKA6.out); have HB7 := Aside0.mk (below_step HB6.out hb); have BKB7 := Aside0.mk hbox; have GEB := Aside0.mk (show ga < gb from by rw [hg]; exact blk_lt BKA6.out); have HGT := Aside0.mk (show gt < gb from by rw [hg]; exact blk_lt BKT6.out); have HGC := Aside0.mk (show gc < gb from by rw [hg]; exact blk_lt BKC6.out); have HAT7 := Aside0.mk (AttrsAt.below HAT6.out hb); clear hbox hb hg) | ((with_reducible refine gate_store (t := 34) (p := 15) rfl ?_); refine store_new rfl 34 (.tmp 15) (.tmp 64) rfl [.int .i64 o, .slice B1 l1.length d1, .int .u32 nx, .int .i64 md, .int .i64 pr, .slice B5 l5.length l5.length, .slice B6 l6.length l6.length] (by rfl) (by rfl) BKB7.out (by rfl) (by kernel_rfl) (by intro v hv; simp only [List.mem_cons, List.not_mem_nil, or_false] at hv; rcases hv with rfl | rfl | rfl | rfl | rfl | rfl | rfl <;> rfl) ?_; intro w8 hx hg hs; have BKB8 := Aside0.mk hx; have BKA8 := Aside0.mk ((hg.block _ (blk_lt BKA7.out) (fun e => by injection e with e; have := GEB.out; omega)).trans BKA7.out); have BKT8 := Aside0.mk ((hg.block _ (blk_lt BKT7.out) (fun e => by injection e with e; have := HGT.out; omega)).trans BKT7.out); have BKC8 := Aside0.mk ((hg.block _ (blk_lt BKC7.out) (fun e => by injection e with e; have := HGC.out; omega)).trans BKC7.out); have HB8 := Aside0.mk (HB7.out.grown hg HB7.out.size (fun k e => by injection e with e; have := GEC.out; have := HGC.out; omega)); have HAT8 := Aside0.mk (AttrsAt.grown HAT7.out hg BKB7.out); clear hx hg hs))
      have hc0 : w8.cell? ⟨gc, 0, none⟩ = some (.int .i64 cA) := (blk_cell BKC8.out 0).trans rfl
      have ht1 : w8.cell? ⟨gt, 1, none⟩ = some (.int .i64 tA) := (blk_cell BKT8.out 1).trans rfl
      have e3 : (tA == cA) = true := beq_iff_eq.mpr HEQ.out
      have e3n : (tA != cA) = false := by simp [HEQ.out]
      have hpr : (pr == -1) = false := beq_eq_false_iff_ne.mpr HPR.out
      have hb4 : w8.cell? ⟨gb, 4, none⟩ = some (.int .i64 pr) := (blk_cell BKB8.out 4).trans rfl
      have HKL := HL1
      go_upto_region 10 with (fail)
      clear hc0 ht1 hb4 e3 e3n hpr
      have HK1 := Aside0.mk (AttrsAt.c1 HAT8.out)
      have HK5 := Aside0.mk (AttrsAt.c5 HAT8.out)
      have HK6 := Aside0.mk (AttrsAt.c6 HAT8.out)
      go_wp2_with (first | ((with_reducible refine gate_dst (N := 85) rfl ?_); (try (refine gate_guard (by rfl) ?_; dsimp only)); refine load_blk rfl 34 (.tmp 15) rfl (g := gb) (off := 0) [.int .i64 o, .slice B1 l1.length d1, .int .u32 nx, .int .i64 md, .int .i64 pr, .slice B5 l5.length l5.length, .slice B6 l6.length l6.length] _ rfl BKB8.out (self_x _) Try.underlying34 rfl (by kernel_rfl) ?_) | (go_at_call 26; with_reducible refine (attr_Good.calls k o B1 d1 l1 nx md pr B5 l5.length l5 B6 l6.length l6 false _ HK1.out HKL.out HK5.out (Nat.le_refl _) HK6.out (Nat.le_refl _) HG.out).mono ?_; rintro e w12 ⟨rfl, hb⟩; have BKAG := Aside0.mk ((hb.block _ (blk_lt BKA8.out)).trans BKA8.out); have BKBG := Aside0.mk ((hb.block _ (blk_lt BKB8.out)).trans BKB8.out); have HBG := Aside0.mk (below_step HB8.out hb); have HM1 := Aside0.mk (Kd.C_below HK1.out hb); have HM5 := Aside0.mk (Kd.C_below HK5.out hb); have HM6 := Aside0.mk (Kd.C_below HK6.out hb); clear hb) | ((with_reducible refine gate_store (t := 34) (p := 10) rfl ?_); refine store_new rfl 34 (.tmp 10) (.tmp 88) rfl [.int .i64 0, .slice none 0 0, .int .u32 0, .int .i64 0, .int .i64 0, .slice none 0 0, .slice none 0 0] (by rfl) (by rfl) BKAG.out (by rfl) (by kernel_rfl) (by intro v hv; simp only [List.mem_cons, List.not_mem_nil, or_false] at hv; rcases hv with rfl | rfl | rfl | rfl | rfl | rfl | rfl <;> rfl) ?_; intro w13 hx hg hs; have BKF := Aside0.mk hx; have HBF := Aside0.mk (HBG.out.grown hg HBG.out.size (fun k e => by injection e with e; have := GEC.out; have := GET.out; have := GER.out; have := GEA.out; have := GEB.out; omega)); clear hx hg hs))
      refine bodyPost_ret (results_ct rfl _ _ ga 34 #[.int .i64 0, .slice none 0 0, .int .u32 0, .int .i64 0, .int .i64 0, .slice none 0 0, .slice none 0 0] (0, 0) _ rfl BKF.out Try.underlying34 rfl (by kernel_rfl)) rfl ?_
      exact ⟨rfl, HBF.out⟩
set_option maxHeartbeats 4000000 in
set_option maxRecDepth 100000 in
open Go.Proofs.Ytjdebhkdbdbepaa.Mid in
theorem export_dflt_false (k : Nat) (cA cI cN cH cG cL cS cD tN tA : Int) (AI : Option Addr) (nI cIn : Nat) (AO : Option Addr) (cOut : Nat) (lo : List S87) (ll : Bool) (pa pl pe o : Int) (A1 : Option Addr) (c1 : Nat) (l1 : List S69) (nx md pr : Int) (A5 : Option Addr) (c5 : Nat) (l5 : List Int) (A6 : Option Addr) (c6 : Nat) (l6 : List S73) (st fr : Int) (rp : Int) (al gd : Bool) (w : World) (hro : Kd.C k87 w AO lo.length lo) (hco : lo.length ≤ cOut) (hr1 : Kd.C k69 w A1 l1.length l1) (hc1 : l1.length ≤ c1) (hr5 : Kd.C (Kd.int .u32) w A5 l5.length l5) (hc5 : l5.length ≤ c5) (hr6 : Kd.C k73 w A6 l6.length l6) (hc6 : l6.length ≤ c6) (hp : policy_Apply.f lo pa pl = some (rp, al)) (h4 : l1.length < 4000) (hd1 : ∀ y ∈ l1, slices_Clone_int_int.f y.f1 = some y.f1) (h4y : ∀ y ∈ l1, y.f1.length < 4000) (h5 : slices_Clone_uint32_uint32.f l5 = some l5) (h6 : l6.length < 4000) (hd : ∀ r ∈ l6, bytes_Clone.f r.f2 = some r.f2) (hst : stopB cA tN tA al ll pe st fr = false) (heq : tA = cA) (hpr_ : pr = -1) (hg_ : attr_Good.f k o l1 nx md 100 l5 l6 = some false) :
    Calls Try.prog 10 #[.agg #[.int .i64 cA, .int .u32 cI, .int .u32 cN, .int .i64 cH, .int .i64 cG, .int .i64 cL, .int .i64 cS, .int .i64 cD], .agg #[.int .i64 tN, .int .i64 tA, .slice AI nI cIn, .slice AO lo.length cOut], .bool ll, .agg #[.int .u32 pa, .int .i64 pl, .int .i64 pe, .int .i64 o, .slice A1 l1.length c1, .int .u32 nx, .int .i64 md, .int .i64 pr, .slice A5 l5.length c5, .slice A6 l6.length c6, .int .i64 st], .int .i64 fr] w fun e w' => e = .returned (.tuple #[.agg #[.int .i64 0, .slice none 0 0, .int .u32 0, .int .i64 0, .int .i64 0, .slice none 0 0, .slice none 0 0], .bool false]) ∧ Below w.heap.size w w' := by
  have HST := Aside0.mk hst
  have H4 := Aside0.mk h4
  have HD1 := Aside0.mk hd1
  have H4Y := Aside0.mk h4y
  have H5 := Aside0.mk h5
  have H6 := Aside0.mk h6
  have HD := Aside0.mk hd
  clear hst h4 hd1 h4y h5 h6 hd
  have HG := Aside0.mk hg_
  clear hg_
  have HEQ := Aside0.mk heq
  have HPR := Aside0.mk hpr_
  clear heq hpr_
  have HRO := Aside0.mk hro
  have HCO := Aside0.mk hco
  have HR1 := Aside0.mk hr1
  have HR5 := Aside0.mk hr5
  have HR6 := Aside0.mk hr6
  have HC := Aside0.mk (And.intro hc1 (And.intro hc5 hc6))
  have HP := Aside0.mk hp
  have hu24 := Try.underlying24
  have hu27 := Try.underlying27
  have hu36 := Try.underlying36
  have hu34 := Try.underlying34
  have hu29 := Try.underlying29
  have HB := Aside0.mk (Below.refl w.heap.size w)
  clear hro hco hr1 hc1 hr5 hc5 hr6 hc6 hp
  go_enter Try.func10, Try.ntmps10
  go_upto_region 2 with (first | ((with_reducible refine gate_dst (N := 5) rfl ?_); refine box_event ?hg (N := 5) ?hd (cs := #[.int .i64 cA, .int .u32 cI, .int .u32 cN, .int .i64 cH, .int .i64 cG, .int .i64 cL, .int .i64 cS, .int .i64 cD]) (t := 24) ?hr ?_; (case hd => rfl); (case hg => rfl); (case hr => first | (go_simp; done) | (go_simp; rfl)); intro gc hg w1 hbox hb; have HB1 := Aside0.mk (below_step HB.out hb); have BKC1 := Aside0.mk hbox; have GEC := Aside0.mk (show w.heap.size ≤ gc from by rw [hg]; exact Nat.le_refl _); clear hbox hb hg) | ((with_reducible refine gate_dst (N := 6) rfl ?_); refine box_event ?hg (N := 6) ?hd (cs := #[.int .i64 tN, .int .i64 tA, .slice AI nI cIn, .slice AO lo.length cOut]) (t := 27) ?hr ?_; (case hd => rfl); (case hg => rfl); (case hr => first | (go_simp; done) | (go_simp; rfl)); intro gt hg w2 hbox hb; have BKC2 := Aside0.mk ((hb.block _ (blk_lt BKC1.out)).trans BKC1.out); have HB2 := Aside0.mk (below_step HB1.out hb); have BKT2 := Aside0.mk hbox; have GET := Aside0.mk (show gc < gt from by rw [hg]; exact blk_lt BKC1.out); clear hbox hb hg) | ((with_reducible refine gate_dst (N := 8) rfl ?_); refine box_event ?hg (N := 8) ?hd (cs := #[.int .u32 pa, .int .i64 pl, .int .i64 pe, .int .i64 o, .slice A1 l1.length c1, .int .u32 nx, .int .i64 md, .int .i64 pr, .slice A5 l5.length c5, .slice A6 l6.length c6, .int .i64 st]) (t := 36) ?hr ?_; (case hd => rfl); (case hg => rfl); (case hr => first | (go_simp; done) | (go_simp; rfl)); intro gr hg w3 hbox hb; have BKC3 := Aside0.mk ((hb.block _ (blk_lt BKC2.out)).trans BKC2.out); have BKT3 := Aside0.mk ((hb.block _ (blk_lt BKT2.out)).trans BKT2.out); have HB3 := Aside0.mk (below_step HB2.out hb); have BKR3 := Aside0.mk hbox; have GER := Aside0.mk (show gt < gr from by rw [hg]; exact blk_lt BKT2.out); clear hbox hb hg) | ((with_reducible refine gate_dst (N := 10) rfl ?_); refine box_event ?hg (N := 10) ?hd (cs := #[.int .i64 0, .slice none 0 0, .int .u32 0, .int .i64 0, .int .i64 0, .slice none 0 0, .slice none 0 0]) (t := 34) ?hr ?_; (case hd => rfl); (case hg => rfl); (case hr => first | (go_simp; done) | (go_simp; rfl)); intro ga hg w4 hbox hb; have BKC4 := Aside0.mk ((hb.block _ (blk_lt BKC3.out)).trans BKC3.out); have BKT4 := Aside0.mk ((hb.block _ (blk_lt BKT3.out)).trans BKT3.out); have BKR4 := Aside0.mk ((hb.block _ (blk_lt BKR3.out)).trans BKR3.out); have HB4 := Aside0.mk (below_step HB3.out hb); have BKA4 := Aside0.mk hbox; have GEA := Aside0.mk (show gr < ga from by rw [hg]; exact blk_lt BKR3.out); have hq3 : w4.cell? ⟨gt, 3, none⟩ = some (.slice AO lo.length cOut) := (blk_cell BKT4.out 3).trans rfl; have hp0 : w4.cell? ⟨gr, 0, none⟩ = some (.int .u32 pa) := (blk_cell BKR4.out 0).trans rfl; have hp1 : w4.cell? ⟨gr, 1, none⟩ = some (.int .i64 pl) := (blk_cell BKR4.out 1).trans rfl; clear hbox hb hg) | (go_at_call 23; with_reducible refine (policy_Apply.calls AO cOut lo pa pl rp al _ (Kd.C_below HRO.out HB4.out) HCO.out HP.out).mono ?_; rintro e w5 ⟨rfl, hb⟩; have BKC5 := Aside0.mk ((hb.block _ (blk_lt BKC4.out)).trans BKC4.out); have BKT5 := Aside0.mk ((hb.block _ (blk_lt BKT4.out)).trans BKT4.out); have BKR5 := Aside0.mk ((hb.block _ (blk_lt BKR4.out)).trans BKR4.out); have BKA5 := Aside0.mk ((hb.block _ (blk_lt BKA4.out)).trans BKA4.out); have HB5 := Aside0.mk (below_step HB4.out hb); clear hb hq3 hp0 hp1))
  have hC0 : w5.cell? ⟨gc, 0, none⟩ = some (.int .i64 cA) := (blk_cell BKC5.out 0).trans rfl
  have hC2 : w5.cell? ⟨gc, 2, none⟩ = some (.int .u32 cN) := (blk_cell BKC5.out 2).trans rfl
  have hT0 : w5.cell? ⟨gt, 0, none⟩ = some (.int .i64 tN) := (blk_cell BKT5.out 0).trans rfl
  have hT1 : w5.cell? ⟨gt, 1, none⟩ = some (.int .i64 tA) := (blk_cell BKT5.out 1).trans rfl
  have hR2 : w5.cell? ⟨gr, 2, none⟩ = some (.int .i64 pe) := (blk_cell BKR5.out 2).trans rfl
  have hR10 : w5.cell? ⟨gr, 10, none⟩ = some (.int .i64 st) := (blk_cell BKR5.out 10).trans rfl
  go_cut [14] (fun v14 wc => v14 = .bool (decide (0 ≤ pe) && (fr == cA) && (tA == cA)) ∧ wc = w5)
  case first =>
    rcases e1 : decide (0 ≤ pe) with _ | _
    · go_wp2
      go_meet
      case rel => exact ⟨by simp [e1], rfl⟩
    · rcases e2 : (fr == cA) with _ | _
      · go_wp2
        go_meet
        case rel => exact ⟨by simp [e1, e2], rfl⟩
      · rcases e3 : (tA == cA) with _ | _
        · go_wp2
          go_meet
          case rel => exact ⟨by simp [e1, e2, e3], rfl⟩
        · go_wp2
          go_meet
          case rel => exact ⟨by simp [e1, e2, e3], rfl⟩
  case rest =>
    obtain ⟨rfl, hwc⟩ := hcut
    have hwc := hwc.symm
    subst hwc
    obtain ⟨win, hwin⟩ : ∃ b : Bool, b = (decide (0 ≤ pe) && (fr == cA) && (tA == cA)) := ⟨_, rfl⟩
    rw [← hwin]
    have HWN := Aside0.mk hwin
    clear hwin
    go_upto_region 3 with (fail)
    go_cut [60] (fun v60 wc => v60 = .bool ((pe == tN) || (win || (!al || ((st == 2) && !ll)))) ∧ wc = w5)
    case first =>
      rcases e4 : (pe == tN) with _ | _
      · rcases win with _ | _
        · rcases al with _ | _
          · go_wp2
            go_meet
            case rel => exact ⟨by simp [e4], rfl⟩
          · rcases e5 : (st == 2) with _ | _
            · go_wp2
              go_meet
              case rel => exact ⟨by simp [e4, e5], rfl⟩
            · rcases ll with _ | _
              · go_wp2
                go_meet
                case rel => exact ⟨by simp [e4, e5], rfl⟩
              · go_wp2
                go_meet
                case rel => exact ⟨by simp [e4, e5], rfl⟩
        · go_wp2
          go_meet
          case rel => exact ⟨by simp [e4], rfl⟩
      · go_wp2
        go_meet
        case rel => exact ⟨by simp [e4], rfl⟩
    case rest =>
      obtain ⟨rfl, hwc⟩ := hcut
      have hwc := hwc.symm
      subst hwc
      rw [show ((pe == tN) || (win || (!al || ((st == 2) && !ll)))) = false from by rw [HWN.out]; exact HST.out]
      go_upto_region 6 with (first | ((with_reducible refine gate_dst (N := 63) rfl ?_); (try (refine gate_guard (by rfl) ?_; dsimp only)); refine load_blk rfl 34 (.tmp 62) rfl (g := gr) (off := 3) [.int .i64 o, .slice A1 l1.length c1, .int .u32 nx, .int .i64 md, .int .i64 pr, .slice A5 l5.length c5, .slice A6 l6.length c6] _ rfl BKR5.out (seven_x pa pl pe o A1 l1.length c1 nx md pr A5 l5.length c5 A6 l6.length c6 st) Try.underlying34 rfl (by kernel_rfl) ?_) | (go_at_call 24; with_reducible refine (attr_own o A1 c1 l1 nx md pr A5 c5 l5 A6 c6 l6 _ (Kd.C_below HR1.out HB5.out) HC.out.1 (Kd.C_below HR5.out HB5.out) HC.out.2.1 (Kd.C_below HR6.out HB5.out) HC.out.2.2 H4.out HD1.out H5.out H6.out HD.out).mono ?_; rintro e w6 ⟨B1, d1, d1', B5, d5', B6, d6', rfl, hl1, hq1, hq5, hq6, hb⟩; have BKC6 := Aside0.mk ((hb.block _ (blk_lt BKC5.out)).trans BKC5.out); have BKT6 := Aside0.mk ((hb.block _ (blk_lt BKT5.out)).trans BKT5.out); have BKA6 := Aside0.mk ((hb.block _ (blk_lt BKA5.out)).trans BKA5.out); have HB6 := Aside0.mk (below_step HB5.out hb); have HL1 := Aside0.mk hl1; have HAT6 := Aside0.mk (attrsAt_mk hq1 hq5 hq6); clear hl1 hq1 hq5 hq6 hb) | ((with_reducible refine gate_dst (N := 15) rfl ?_); refine box_event ?hg (N := 15) ?hd (cs := #[.int .i64 0, .slice none 0 0, .int .u32 0, .int .i64 0, .int .i64 0, .slice none 0 0, .slice none 0 0]) (t := 34) ?hr ?_; (case hd => rfl); (case hg => rfl); (case hr => first | (go_simp; done) | (go_simp; rfl)); intro gb hg w7 hbox hb; have BKC7 := Aside0.mk ((hb.block _ (blk_lt BKC6.out)).trans BKC6.out); have BKT7 := Aside0.mk ((hb.block _ (blk_lt BKT6.out)).trans BKT6.out); have BKA7 := Aside0.mk ((hb.block _ (blk_lt BKA6.out)).trans BKA6.out); have HB7 := Aside0.mk (below_step HB6.out hb); have BKB7 := Aside0.mk hbox; have GEB := Aside0.mk (show ga < gb from by rw [hg]; exact blk_lt BKA6.out); have HGT := Aside0.mk (show gt < gb from by rw [hg]; exact blk_lt BKT6.out); have HGC := Aside0.mk (show gc < gb from by rw [hg]; exact blk_lt BKC6.out); have HAT7 := Aside0.mk (AttrsAt.below HAT6.out hb); clear hbox hb hg) | ((with_reducible refine gate_store (t := 34) (p := 15) rfl ?_); refine store_new rfl 34 (.tmp 15) (.tmp 64) rfl [.int .i64 o, .slice B1 l1.length d1, .int .u32 nx, .int .i64 md, .int .i64 pr, .slice B5 l5.length l5.length, .slice B6 l6.length l6.length] (by rfl) (by rfl) BKB7.out (by rfl) (by kernel_rfl) (by intro v hv; simp only [List.mem_cons, List.not_mem_nil, or_false] at hv; rcases hv with rfl | rfl | rfl | rfl | rfl | rfl | rfl <;> rfl) ?_; intro w8 hx hg hs; have BKB8 := Aside0.mk hx; have BKA8 := Aside0.mk ((hg.block _ (blk_lt BKA7.out) (fun e => by injection e with e; have := GEB.out; omega)).trans BKA7.out); have BKT8 := Aside0.mk ((hg.block _ (blk_lt BKT7.out) (fun e => by injection e with e; have := HGT.out; omega)).trans BKT7.out); have BKC8 := Aside0.mk ((hg.block _ (blk_lt BKC7.out) (fun e => by injection e with e; have := HGC.out; omega)).trans BKC7.out); have HB8 := Aside0.mk (HB7.out.grown hg HB7.out.size (fun k e => by injection e with e; have := GEC.out; have := HGC.out; omega)); have HAT8 := Aside0.mk (AttrsAt.grown HAT7.out hg BKB7.out); clear hx hg hs))
      have hc0 : w8.cell? ⟨gc, 0, none⟩ = some (.int .i64 cA) := (blk_cell BKC8.out 0).trans rfl
      have ht1 : w8.cell? ⟨gt, 1, none⟩ = some (.int .i64 tA) := (blk_cell BKT8.out 1).trans rfl
      have e3 : (tA == cA) = true := beq_iff_eq.mpr HEQ.out
      have e3n : (tA != cA) = false := by simp [HEQ.out]
      have hpr : (pr == -1) = true := beq_iff_eq.mpr HPR.out
      have hb4 : w8.cell? ⟨gb, 4, none⟩ = some (.int .i64 pr) := (blk_cell BKB8.out 4).trans rfl
      have hf4 := blk_frozen BKB8.out 4
      have HKL := HL1
      go_upto_region 10 with (fail)
      clear hc0 ht1 hb4 hf4 e3 e3n hpr
      have BKB9 := Aside0.mk (show (w8.setCell ⟨gb, 4, none⟩ (.int .i64 100)).heap[gb]? = some (.cells #[.int .i64 o, .slice B1 l1.length d1, .int .u32 nx, .int .i64 md, .int .i64 100, .slice B5 l5.length l5.length, .slice B6 l6.length l6.length] 34 (0, 0)) from blk_put BKB8.out 4 _ rfl)
      have BKA9 := Aside0.mk (show (w8.setCell ⟨gb, 4, none⟩ (.int .i64 100)).heap[ga]? = some (.cells #[.int .i64 0, .slice none 0 0, .int .u32 0, .int .i64 0, .int .i64 0, .slice none 0 0, .slice none 0 0] 34 (0, 0)) from (Below.heap_setCell _ _ _ _ (show ga ≠ gb from by have := GEB.out; omega)).trans BKA8.out)
      have HB9 := Aside0.mk (show Below w.heap.size w (w8.setCell ⟨gb, 4, none⟩ (.int .i64 100)) from Below.setCell HB8.out (show w.heap.size ≤ gb from by have := GEC.out; have := GET.out; have := GER.out; have := GEA.out; have := GEB.out; omega) _)
      have HAT9 := Aside0.mk (show AttrsAt (w8.setCell ⟨gb, 4, none⟩ (.int .i64 100)) _ _ _ _ _ _ _ _ _ _ _ from AttrsAt.set HAT8.out BKB8.out 4 _)
      clear BKB8 BKA8 HB8 HAT8 BKC8 BKT8
      generalize (w8.setCell ⟨gb, 4, none⟩ (.int .i64 100)) = w9 at BKB9 BKA9 HB9 HAT9 ⊢
      have HK1 := Aside0.mk (AttrsAt.c1 HAT9.out)
      have HK5 := Aside0.mk (AttrsAt.c5 HAT9.out)
      have HK6 := Aside0.mk (AttrsAt.c6 HAT9.out)
      go_wp2_with (first | ((with_reducible refine gate_dst (N := 85) rfl ?_); (try (refine gate_guard (by rfl) ?_; dsimp only)); refine load_blk rfl 34 (.tmp 15) rfl (g := gb) (off := 0) [.int .i64 o, .slice B1 l1.length d1, .int .u32 nx, .int .i64 md, .int .i64 100, .slice B5 l5.length l5.length, .slice B6 l6.length l6.length] _ rfl BKB9.out (self_x _) Try.underlying34 rfl (by kernel_rfl) ?_) | (go_at_call 26; with_reducible refine (attr_Good.calls k o B1 d1 l1 nx md 100 B5 l5.length l5 B6 l6.length l6 false _ HK1.out HKL.out HK5.out (Nat.le_refl _) HK6.out (Nat.le_refl _) HG.out).mono ?_; rintro e w12 ⟨rfl, hb⟩; have BKAG := Aside0.mk ((hb.block _ (blk_lt BKA9.out)).trans BKA9.out); have BKBG := Aside0.mk ((hb.block _ (blk_lt BKB9.out)).trans BKB9.out); have HBG := Aside0.mk (below_step HB9.out hb); have HM1 := Aside0.mk (Kd.C_below HK1.out hb); have HM5 := Aside0.mk (Kd.C_below HK5.out hb); have HM6 := Aside0.mk (Kd.C_below HK6.out hb); clear hb) | ((with_reducible refine gate_store (t := 34) (p := 10) rfl ?_); refine store_new rfl 34 (.tmp 10) (.tmp 88) rfl [.int .i64 0, .slice none 0 0, .int .u32 0, .int .i64 0, .int .i64 0, .slice none 0 0, .slice none 0 0] (by rfl) (by rfl) BKAG.out (by rfl) (by kernel_rfl) (by intro v hv; simp only [List.mem_cons, List.not_mem_nil, or_false] at hv; rcases hv with rfl | rfl | rfl | rfl | rfl | rfl | rfl <;> rfl) ?_; intro w13 hx hg hs; have BKF := Aside0.mk hx; have HBF := Aside0.mk (HBG.out.grown hg HBG.out.size (fun k e => by injection e with e; have := GEC.out; have := GET.out; have := GER.out; have := GEA.out; have := GEB.out; omega)); clear hx hg hs))
      refine bodyPost_ret (results_ct rfl _ _ ga 34 #[.int .i64 0, .slice none 0 0, .int .u32 0, .int .i64 0, .int .i64 0, .slice none 0 0, .slice none 0 0] (0, 0) _ rfl BKF.out Try.underlying34 rfl (by kernel_rfl)) rfl ?_
      exact ⟨rfl, HBF.out⟩
set_option maxHeartbeats 4000000 in
set_option maxRecDepth 100000 in
open Go.Proofs.Ytjdebhkdbdbepaa.Mid in
theorem export_ext_false (k : Nat) (cA cI cN cH cG cL cS cD tN tA : Int) (AI : Option Addr) (nI cIn : Nat) (AO : Option Addr) (cOut : Nat) (lo : List S87) (ll : Bool) (pa pl pe o : Int) (A1 : Option Addr) (c1 : Nat) (l1 : List S69) (nx md pr : Int) (A5 : Option Addr) (c5 : Nat) (l5 : List Int) (A6 : Option Addr) (c6 : Nat) (l6 : List S73) (st fr : Int) (rp : Int) (al gd : Bool) (w : World) (hro : Kd.C k87 w AO lo.length lo) (hco : lo.length ≤ cOut) (hr1 : Kd.C k69 w A1 l1.length l1) (hc1 : l1.length ≤ c1) (hr5 : Kd.C (Kd.int .u32) w A5 l5.length l5) (hc5 : l5.length ≤ c5) (hr6 : Kd.C k73 w A6 l6.length l6) (hc6 : l6.length ≤ c6) (hp : policy_Apply.f lo pa pl = some (rp, al)) (h4 : l1.length < 4000) (hd1 : ∀ y ∈ l1, slices_Clone_int_int.f y.f1 = some y.f1) (h4y : ∀ y ∈ l1, y.f1.length < 4000) (h5 : slices_Clone_uint32_uint32.f l5 = some l5) (h6 : l6.length < 4000) (hd : ∀ r ∈ l6, bytes_Clone.f r.f2 = some r.f2) (hst : stopB cA tN tA al ll pe st fr = false) (heq : tA ≠ cA) (hg_ : attr_Good.f k o (prependV l1 cA) cN (-1) (-1) l5 l6 = some false) :
    Calls Try.prog 10 #[.agg #[.int .i64 cA, .int .u32 cI, .int .u32 cN, .int .i64 cH, .int .i64 cG, .int .i64 cL, .int .i64 cS, .int .i64 cD], .agg #[.int .i64 tN, .int .i64 tA, .slice AI nI cIn, .slice AO lo.length cOut], .bool ll, .agg #[.int .u32 pa, .int .i64 pl, .int .i64 pe, .int .i64 o, .slice A1 l1.length c1, .int .u32 nx, .int .i64 md, .int .i64 pr, .slice A5 l5.length c5, .slice A6 l6.length c6, .int .i64 st], .int .i64 fr] w fun e w' => e = .returned (.tuple #[.agg #[.int .i64 0, .slice none 0 0, .int .u32 0, .int .i64 0, .int .i64 0, .slice none 0 0, .slice none 0 0], .bool false]) ∧ Below w.heap.size w w' := by
  have HST := Aside0.mk hst
  have H4 := Aside0.mk h4
  have HD1 := Aside0.mk hd1
  have H4Y := Aside0.mk h4y
  have H5 := Aside0.mk h5
  have H6 := Aside0.mk h6
  have HD := Aside0.mk hd
  clear hst h4 hd1 h4y h5 h6 hd
  have HG := Aside0.mk hg_
  clear hg_
  have HEQ := Aside0.mk heq
  clear heq
  have HRO := Aside0.mk hro
  have HCO := Aside0.mk hco
  have HR1 := Aside0.mk hr1
  have HR5 := Aside0.mk hr5
  have HR6 := Aside0.mk hr6
  have HC := Aside0.mk (And.intro hc1 (And.intro hc5 hc6))
  have HP := Aside0.mk hp
  have hu24 := Try.underlying24
  have hu27 := Try.underlying27
  have hu36 := Try.underlying36
  have hu34 := Try.underlying34
  have hu29 := Try.underlying29
  have HB := Aside0.mk (Below.refl w.heap.size w)
  clear hro hco hr1 hc1 hr5 hc5 hr6 hc6 hp
  go_enter Try.func10, Try.ntmps10
  go_upto_region 2 with (first | ((with_reducible refine gate_dst (N := 5) rfl ?_); refine box_event ?hg (N := 5) ?hd (cs := #[.int .i64 cA, .int .u32 cI, .int .u32 cN, .int .i64 cH, .int .i64 cG, .int .i64 cL, .int .i64 cS, .int .i64 cD]) (t := 24) ?hr ?_; (case hd => rfl); (case hg => rfl); (case hr => first | (go_simp; done) | (go_simp; rfl)); intro gc hg w1 hbox hb; have HB1 := Aside0.mk (below_step HB.out hb); have BKC1 := Aside0.mk hbox; have GEC := Aside0.mk (show w.heap.size ≤ gc from by rw [hg]; exact Nat.le_refl _); clear hbox hb hg) | ((with_reducible refine gate_dst (N := 6) rfl ?_); refine box_event ?hg (N := 6) ?hd (cs := #[.int .i64 tN, .int .i64 tA, .slice AI nI cIn, .slice AO lo.length cOut]) (t := 27) ?hr ?_; (case hd => rfl); (case hg => rfl); (case hr => first | (go_simp; done) | (go_simp; rfl)); intro gt hg w2 hbox hb; have BKC2 := Aside0.mk ((hb.block _ (blk_lt BKC1.out)).trans BKC1.out); have HB2 := Aside0.mk (below_step HB1.out hb); have BKT2 := Aside0.mk hbox; have GET := Aside0.mk (show gc < gt from by rw [hg]; exact blk_lt BKC1.out); clear hbox hb hg) | ((with_reducible refine gate_dst (N := 8) rfl ?_); refine box_event ?hg (N := 8) ?hd (cs := #[.int .u32 pa, .int .i64 pl, .int .i64 pe, .int .i64 o, .slice A1 l1.length c1, .int .u32 nx, .int .i64 md, .int .i64 pr, .slice A5 l5.length c5, .slice A6 l6.length c6, .int .i64 st]) (t := 36) ?hr ?_; (case hd => rfl); (case hg => rfl); (case hr => first | (go_simp; done) | (go_simp; rfl)); intro gr hg w3 hbox hb; have BKC3 := Aside0.mk ((hb.block _ (blk_lt BKC2.out)).trans BKC2.out); have BKT3 := Aside0.mk ((hb.block _ (blk_lt BKT2.out)).trans BKT2.out); have HB3 := Aside0.mk (below_step HB2.out hb); have BKR3 := Aside0.mk hbox; have GER := Aside0.mk (show gt < gr from by rw [hg]; exact blk_lt BKT2.out); clear hbox hb hg) | ((with_reducible refine gate_dst (N := 10) rfl ?_); refine box_event ?hg (N := 10) ?hd (cs := #[.int .i64 0, .slice none 0 0, .int .u32 0, .int .i64 0, .int .i64 0, .slice none 0 0, .slice none 0 0]) (t := 34) ?hr ?_; (case hd => rfl); (case hg => rfl); (case hr => first | (go_simp; done) | (go_simp; rfl)); intro ga hg w4 hbox hb; have BKC4 := Aside0.mk ((hb.block _ (blk_lt BKC3.out)).trans BKC3.out); have BKT4 := Aside0.mk ((hb.block _ (blk_lt BKT3.out)).trans BKT3.out); have BKR4 := Aside0.mk ((hb.block _ (blk_lt BKR3.out)).trans BKR3.out); have HB4 := Aside0.mk (below_step HB3.out hb); have BKA4 := Aside0.mk hbox; have GEA := Aside0.mk (show gr < ga from by rw [hg]; exact blk_lt BKR3.out); have hq3 : w4.cell? ⟨gt, 3, none⟩ = some (.slice AO lo.length cOut) := (blk_cell BKT4.out 3).trans rfl; have hp0 : w4.cell? ⟨gr, 0, none⟩ = some (.int .u32 pa) := (blk_cell BKR4.out 0).trans rfl; have hp1 : w4.cell? ⟨gr, 1, none⟩ = some (.int .i64 pl) := (blk_cell BKR4.out 1).trans rfl; clear hbox hb hg) | (go_at_call 23; with_reducible refine (policy_Apply.calls AO cOut lo pa pl rp al _ (Kd.C_below HRO.out HB4.out) HCO.out HP.out).mono ?_; rintro e w5 ⟨rfl, hb⟩; have BKC5 := Aside0.mk ((hb.block _ (blk_lt BKC4.out)).trans BKC4.out); have BKT5 := Aside0.mk ((hb.block _ (blk_lt BKT4.out)).trans BKT4.out); have BKR5 := Aside0.mk ((hb.block _ (blk_lt BKR4.out)).trans BKR4.out); have BKA5 := Aside0.mk ((hb.block _ (blk_lt BKA4.out)).trans BKA4.out); have HB5 := Aside0.mk (below_step HB4.out hb); clear hb hq3 hp0 hp1))
  have hC0 : w5.cell? ⟨gc, 0, none⟩ = some (.int .i64 cA) := (blk_cell BKC5.out 0).trans rfl
  have hC2 : w5.cell? ⟨gc, 2, none⟩ = some (.int .u32 cN) := (blk_cell BKC5.out 2).trans rfl
  have hT0 : w5.cell? ⟨gt, 0, none⟩ = some (.int .i64 tN) := (blk_cell BKT5.out 0).trans rfl
  have hT1 : w5.cell? ⟨gt, 1, none⟩ = some (.int .i64 tA) := (blk_cell BKT5.out 1).trans rfl
  have hR2 : w5.cell? ⟨gr, 2, none⟩ = some (.int .i64 pe) := (blk_cell BKR5.out 2).trans rfl
  have hR10 : w5.cell? ⟨gr, 10, none⟩ = some (.int .i64 st) := (blk_cell BKR5.out 10).trans rfl
  go_cut [14] (fun v14 wc => v14 = .bool (decide (0 ≤ pe) && (fr == cA) && (tA == cA)) ∧ wc = w5)
  case first =>
    rcases e1 : decide (0 ≤ pe) with _ | _
    · go_wp2
      go_meet
      case rel => exact ⟨by simp [e1], rfl⟩
    · rcases e2 : (fr == cA) with _ | _
      · go_wp2
        go_meet
        case rel => exact ⟨by simp [e1, e2], rfl⟩
      · rcases e3 : (tA == cA) with _ | _
        · go_wp2
          go_meet
          case rel => exact ⟨by simp [e1, e2, e3], rfl⟩
        · go_wp2
          go_meet
          case rel => exact ⟨by simp [e1, e2, e3], rfl⟩
  case rest =>
    obtain ⟨rfl, hwc⟩ := hcut
    have hwc := hwc.symm
    subst hwc
    obtain ⟨win, hwin⟩ : ∃ b : Bool, b = (decide (0 ≤ pe) && (fr == cA) && (tA == cA)) := ⟨_, rfl⟩
    rw [← hwin]
    have HWN := Aside0.mk hwin
    clear hwin
    go_upto_region 3 with (fail)
    go_cut [60] (fun v60 wc => v60 = .bool ((pe == tN) || (win || (!al || ((st == 2) && !ll)))) ∧ wc = w5)
    case first =>
      rcases e4 : (pe == tN) with _ | _
      · rcases win with _ | _
        · rcases al with _ | _
          · go_wp2
            go_meet
            case rel => exact ⟨by simp [e4], rfl⟩
          · rcases e5 : (st == 2) with _ | _
            · go_wp2
              go_meet
              case rel => exact ⟨by simp [e4, e5], rfl⟩
            · rcases ll with _ | _
              · go_wp2
                go_meet
                case rel => exact ⟨by simp [e4, e5], rfl⟩
              · go_wp2
                go_meet
                case rel => exact ⟨by simp [e4, e5], rfl⟩
        · go_wp2
          go_meet
          case rel => exact ⟨by simp [e4], rfl⟩
      · go_wp2
        go_meet
        case rel => exact ⟨by simp [e4], rfl⟩
    case rest =>
      obtain ⟨rfl, hwc⟩ := hcut
      have hwc := hwc.symm
      subst hwc
      rw [show ((pe == tN) || (win || (!al || ((st == 2) && !ll)))) = false from by rw [HWN.out]; exact HST.out]
      go_upto_region 6 with (first | ((with_reducible refine gate_dst (N := 63) rfl ?_); (try (refine gate_guard (by rfl) ?_; dsimp only)); refine load_blk rfl 34 (.tmp 62) rfl (g := gr) (off := 3) [.int .i64 o, .slice A1 l1.length c1, .int .u32 nx, .int .i64 md, .int .i64 pr, .slice A5 l5.length c5, .slice A6 l6.length c6] _ rfl BKR5.out (seven_x pa pl pe o A1 l1.length c1 nx md pr A5 l5.length c5 A6 l6.length c6 st) Try.underlying34 rfl (by kernel_rfl) ?_) | (go_at_call 24; with_reducible refine (attr_own o A1 c1 l1 nx md pr A5 c5 l5 A6 c6 l6 _ (Kd.C_below HR1.out HB5.out) HC.out.1 (Kd.C_below HR5.out HB5.out) HC.out.2.1 (Kd.C_below HR6.out HB5.out) HC.out.2.2 H4.out HD1.out H5.out H6.out HD.out).mono ?_; rintro e w6 ⟨B1, d1, d1', B5, d5', B6, d6', rfl, hl1, hq1, hq5, hq6, hb⟩; have BKC6 := Aside0.mk ((hb.block _ (blk_lt BKC5.out)).trans BKC5.out); have BKT6 := Aside0.mk ((hb.block _ (blk_lt BKT5.out)).trans BKT5.out); have BKA6 := Aside0.mk ((hb.block _ (blk_lt BKA5.out)).trans BKA5.out); have HB6 := Aside0.mk (below_step HB5.out hb); have HL1 := Aside0.mk hl1; have HAT6 := Aside0.mk (attrsAt_mk hq1 hq5 hq6); have HSX6 := Aside0.mk hb.size; clear hl1 hq1 hq5 hq6 hb) | ((with_reducible refine gate_dst (N := 15) rfl ?_); refine box_event ?hg (N := 15) ?hd (cs := #[.int .i64 0, .slice none 0 0, .int .u32 0, .int .i64 0, .int .i64 0, .slice none 0 0, .slice none 0 0]) (t := 34) ?hr ?_; (case hd => rfl); (case hg => rfl); (case hr => first | (go_simp; done) | (go_simp; rfl)); intro gb hg w7 hbox hb; have BKC7 := Aside0.mk ((hb.block _ (blk_lt BKC6.out)).trans BKC6.out); have BKT7 := Aside0.mk ((hb.block _ (blk_lt BKT6.out)).trans BKT6.out); have BKA7 := Aside0.mk ((hb.block _ (blk_lt BKA6.out)).trans BKA6.out); have HB7 := Aside0.mk (below_step HB6.out hb); have BKB7 := Aside0.mk hbox; have GEB := Aside0.mk (show ga < gb from by rw [hg]; exact blk_lt BKA6.out); have HGT := Aside0.mk (show gt < gb from by rw [hg]; exact blk_lt BKT6.out); have HGC := Aside0.mk (show gc < gb from by rw [hg]; exact blk_lt BKC6.out); have HAT7 := Aside0.mk (AttrsAt.below HAT6.out hb); have HSX7 := Aside0.mk (Nat.le_trans HSX6.out hb.size); clear hbox hb hg) | ((with_reducible refine gate_store (t := 34) (p := 15) rfl ?_); refine store_new rfl 34 (.tmp 15) (.tmp 64) rfl [.int .i64 o, .slice B1 l1.length d1, .int .u32 nx, .int .i64 md, .int .i64 pr, .slice B5 l5.length l5.length, .slice B6 l6.length l6.length] (by rfl) (by rfl) BKB7.out (by rfl) (by kernel_rfl) (by intro v hv; simp only [List.mem_cons, List.not_mem_nil, or_false] at hv; rcases hv with rfl | rfl | rfl | rfl | rfl | rfl | rfl <;> rfl) ?_; intro w8 hx hg hs; have BKB8 := Aside0.mk hx; have BKA8 := Aside0.mk ((hg.block _ (blk_lt BKA7.out) (fun e => by injection e with e; have := GEB.out; omega)).trans BKA7.out); have BKT8 := Aside0.mk ((hg.block _ (blk_lt BKT7.out) (fun e => by injection e with e; have := HGT.out; omega)).trans BKT7.out); have BKC8 := Aside0.mk ((hg.block _ (blk_lt BKC7.out) (fun e => by injection e with e; have := HGC.out; omega)).trans BKC7.out); have HB8 := Aside0.mk (HB7.out.grown hg HB7.out.size (fun k e => by injection e with e; have := GEC.out; have := HGC.out; omega)); have HAT8 := Aside0.mk (AttrsAt.grown HAT7.out hg BKB7.out); have HSX := Aside0.mk (Nat.le_trans HSX7.out hg.size); clear hx hg hs))
      have hc0 : w8.cell? ⟨gc, 0, none⟩ = some (.int .i64 cA) := (blk_cell BKC8.out 0).trans rfl
      have ht1 : w8.cell? ⟨gt, 1, none⟩ = some (.int .i64 tA) := (blk_cell BKT8.out 1).trans rfl
      have HSZ8 := Aside0.mk (show w5.heap.size ≤ w8.heap.size from HSX.out)
      have e3 : (tA == cA) = false := beq_eq_false_iff_ne.mpr HEQ.out
      have e3n : (tA != cA) = true := by simp [HEQ.out]
      go_upto_region 7 with (fail)
      clear hc0 ht1 e3 e3n
      refine start_ (n := 15) (S := fun w' => w'.cell? ⟨gc, 0, none⟩ = some (.int .i64 cA) ∧ w'.cell? ⟨gc, 2, none⟩ = some (.int .u32 cN)) (ds := []) #[false, false, false, false, false, false, false, false, false, false, false, false, false, false, false] (by kernel_rfl) rfl rfl ⟨(blk_cell BKC8.out 0).trans rfl, (blk_cell BKC8.out 2).trans rfl⟩ (fun hHeld => ?_)
      have HBD := Aside0.mk (below_drew1 HB8.out)
      have BKCD := Aside0.mk (blk_drew BKC8.out)
      have BKBD := Aside0.mk (blk_drew BKB8.out)
      have BKAD := Aside0.mk (blk_drew BKA8.out)
      have HATD := Aside0.mk (AttrsAt.below HAT8.out (below_drew (Below.refl _ _)))
      have HSZ := Aside0.mk (show w5.heap.size ≤ w8.drew.heap.size from HSZ8.out)
      generalize w8.drew = wD at HBD BKCD BKBD BKAD HATD HSZ hHeld ⊢
      have hb1D := (show wD.cell? ⟨gb, 1, none⟩ = some (.slice B1 l1.length d1) from (blk_cell BKBD.out 1).trans rfl)
      have HNE := Aside0.mk (show gc ≠ gb from by have := HGC.out; omega)
      refine pure_ (i := 0) (N := some 70) (v := ?_) (a' := ?_) #[true, false, false, false, false, false, false, false, false, false, false, false, false, false, false] rfl rfl (by kernel_rfl) (fun _ _ _ h => h) (Or.inl ⟨by rfl, ?_⟩) ?_ ?_
      rotate_left
      · intro w'
        go_simp
        with_reducible rfl
      rotate_left
      · simp only [Act.put, List.setIfInBounds_toArray, List.set_cons_zero, List.set_cons_succ, i64_w, i32_w]
        rfl
      refine pure_ (i := 2) (N := some 72) (v := ?_) (a' := ?_) #[true, false, true, false, false, false, false, false, false, false, false, false, false, false, false] rfl rfl (by kernel_rfl) (fun _ _ _ h => h) (Or.inl ⟨by rfl, ?_⟩) ?_ ?_
      rotate_left
      · intro w'
        go_simp
        with_reducible rfl
      rotate_left
      · simp only [Act.put, List.setIfInBounds_toArray, List.set_cons_zero, List.set_cons_succ, i64_w, i32_w]
        rfl
      refine pure_ (i := 5) (N := some 75) (v := ?_) (a' := ?_) #[true, false, true, false, false, true, false, false, false, false, false, false, false, false, false] rfl rfl (by kernel_rfl) (fun _ _ _ h => h) (Or.inl ⟨by rfl, ?_⟩) ?_ ?_
      rotate_left
      · intro w'
        go_simp
        with_reducible rfl
      rotate_left
      · simp only [Act.put, List.setIfInBounds_toArray, List.set_cons_zero, List.set_cons_succ, i64_w, i32_w]
        rfl
      refine take_ (i := 3) (N := some 73) (v := ?_) (a' := ?_) #[true, false, true, true, false, true, false, false, false, false, false, false, false, false, false] rfl rfl (by kernel_rfl) (fun _ _ _ h => h) (Or.inl ⟨by rfl, ?_⟩) hHeld ?_ ?_
      rotate_left
      · rintro w' ⟨s0, s1⟩
        go_simp
        with_reducible rfl
      rotate_left
      · simp only [Act.put, List.setIfInBounds_toArray, List.set_cons_zero, List.set_cons_succ, i64_w, i32_w]
        rfl
      refine take_ (i := 6) (N := some 76) (v := ?_) (a' := ?_) #[true, false, true, true, false, true, true, false, false, false, false, false, false, false, false] rfl rfl (by kernel_rfl) (fun _ _ _ h => h) (Or.inl ⟨by rfl, ?_⟩) hHeld ?_ ?_
      rotate_left
      · rintro w' ⟨s0, s1⟩
        go_simp
        with_reducible rfl
      rotate_left
      · simp only [Act.put, List.setIfInBounds_toArray, List.set_cons_zero, List.set_cons_succ, i64_w, i32_w]
        rfl
      refine one_ (i := 1) (N := some 71) #[true, true, true, true, false, true, true, false, false, false, false, false, false, false, false] rfl rfl (by kernel_rfl) (by decide) (fun K hK => ?_)
      refine value_ (w1 := ?_) (v := ?_) (by rfl) rfl ?_ ?_
      rotate_left 2
      · go_simp
        constructor
        · rfl
        · rfl
      refine hK.out _ _ ⟨(blk_cell BKCD.out 0).trans rfl, (blk_cell BKCD.out 2).trans rfl⟩ (fun hHeld => ?_)
      clear hK K
      refine norm_ (a' := ?_) ?_ ?_
      rotate_left
      · show Act.put _ (some 71) _ = _
        simp only [Act.put, List.setIfInBounds_toArray, List.set_cons_zero, List.set_cons_succ, i64_w, i32_w]
        rfl
      refine one_ (i := 4) (N := some 74) #[true, true, true, true, true, true, true, false, false, false, false, false, false, false, false] rfl rfl (by kernel_rfl) (by decide) (fun K hK => ?_)
      refine goes_ Try.func25 (by kernel_rfl) rfl #[.slice B1 l1.length d1, .int .i64 cA] (by rfl) rfl rfl (by (try simp only [List.map_toArray, List.map_cons, List.map_nil]); first | done | rfl) ?_
      refine (path_prepend B1 d1 l1 cA _ (AttrsAt.c1 HATD.out) HL1.out H4.out HD1.out H4Y.out).mono ?_
      rintro e w9 ⟨Q, n, q, q', rfl, hn, hq, hR, hb⟩
      clear hb1D
      subst hn
      have HQQ := Aside0.mk hq
      have HAT9 := Aside0.mk (attrsAt_mk (Kd.R_mono (ok' := fun k => w5.heap.size ≤ k) (Kd.R_lower hR HSZ.out) (fun k hk => Nat.le_trans HSZ.out hk)) (Kd.R_below HATD.out.2.1 hb) (Kd.R_below HATD.out.2.2 hb))
      have BKC9 := Aside0.mk ((hb.block _ (blk_lt BKCD.out)).trans BKCD.out)
      have BKB9 := Aside0.mk ((hb.block _ (blk_lt BKBD.out)).trans BKBD.out)
      have BKA9 := Aside0.mk ((hb.block _ (blk_lt BKAD.out)).trans BKAD.out)
      have HB9 := Aside0.mk (below_step HBD.out hb)
      clear hb hq hR
      have hs1 : w9.cell? ⟨gb, 1, none⟩ = some (.slice B1 l1.length d1) := (blk_cell BKB9.out 1).trans rfl
      have hs2 : w9.cell? ⟨gb, 2, none⟩ = some (.int .u32 nx) := (blk_cell BKB9.out 2).trans rfl
      have hs3 : w9.cell? ⟨gb, 3, none⟩ = some (.int .i64 md) := (blk_cell BKB9.out 3).trans rfl
      have hs4 : w9.cell? ⟨gb, 4, none⟩ = some (.int .i64 pr) := (blk_cell BKB9.out 4).trans rfl
      have hsf1 := blk_frozen BKB9.out 1
      have hsf2 := blk_frozen BKB9.out 2
      have hsf3 := blk_frozen BKB9.out 3
      have hsf4 := blk_frozen BKB9.out 4
      refine ⟨_, rfl, ?_⟩
      refine hK.out _ _ ⟨(blk_cell BKC9.out 0).trans rfl, (blk_cell BKC9.out 2).trans rfl⟩ (fun hHeld => ?_)
      clear hK K
      refine norm_ (a' := ?_) ?_ ?_
      rotate_left
      · show Act.put _ (some 74) _ = _
        simp only [Act.put, List.setIfInBounds_toArray, List.set_cons_zero, List.set_cons_succ, i64_w, i32_w]
        rfl
      refine pure_ (i := 7) (N := some 77) (v := ?_) (a' := ?_) #[true, true, true, true, true, true, true, true, false, false, false, false, false, false, false] rfl rfl (by kernel_rfl) (fun _ _ _ h => h) (Or.inl ⟨by rfl, ?_⟩) ?_ ?_
      rotate_left
      · intro w'
        go_simp
        with_reducible rfl
      rotate_left
      · simp only [Act.put, List.setIfInBounds_toArray, List.set_cons_zero, List.set_cons_succ, i64_w, i32_w]
        rfl
      refine one_ (i := 8) (N := none) #[true, true, true, true, true, true, true, true, true, false, false, false, false, false, false] rfl rfl (by kernel_rfl) (by decide) (fun K hK => ?_)
      refine skip_ (w1 := ?_) (by rfl) rfl ?_ ?_
      rotate_left
      · go_simp
        rfl
      refine hK.out _ _ ⟨(blk_cell (blk_far BKC9.out HNE.out _) 0).trans rfl, (blk_cell (blk_far BKC9.out HNE.out _) 2).trans rfl⟩ (fun hHeld => ?_)
      clear hK K
      refine pure_ (i := 9) (N := some 78) (v := ?_) (a' := ?_) #[true, true, true, true, true, true, true, true, true, true, false, false, false, false, false] rfl rfl (by kernel_rfl) (fun _ _ _ h => h) (Or.inl ⟨by rfl, ?_⟩) ?_ ?_
      rotate_left
      · intro w'
        go_simp
        with_reducible rfl
      rotate_left
      · simp only [Act.put, List.setIfInBounds_toArray, List.set_cons_zero, List.set_cons_succ, i64_w, i32_w]
        rfl
      refine one_ (i := 10) (N := none) #[true, true, true, true, true, true, true, true, true, true, true, false, false, false, false] rfl rfl (by kernel_rfl) (by decide) (fun K hK => ?_)
      refine skip_ (w1 := ?_) (by rfl) rfl ?_ ?_
      rotate_left
      · go_simp
        rfl
      refine hK.out _ _ ⟨(blk_cell (blk_far (blk_far BKC9.out HNE.out _) HNE.out _) 0).trans rfl, (blk_cell (blk_far (blk_far BKC9.out HNE.out _) HNE.out _) 2).trans rfl⟩ (fun hHeld => ?_)
      clear hK K
      refine pure_ (i := 11) (N := some 79) (v := ?_) (a' := ?_) #[true, true, true, true, true, true, true, true, true, true, true, true, false, false, false] rfl rfl (by kernel_rfl) (fun _ _ _ h => h) (Or.inl ⟨by rfl, ?_⟩) ?_ ?_
      rotate_left
      · intro w'
        go_simp
        with_reducible rfl
      rotate_left
      · simp only [Act.put, List.setIfInBounds_toArray, List.set_cons_zero, List.set_cons_succ, i64_w, i32_w]
        rfl
      refine one_ (i := 12) (N := none) #[true, true, true, true, true, true, true, true, true, true, true, true, true, false, false] rfl rfl (by kernel_rfl) (by decide) (fun K hK => ?_)
      refine skip_ (w1 := ?_) (by rfl) rfl ?_ ?_
      rotate_left
      · go_simp
        rfl
      refine hK.out _ _ ⟨(blk_cell (blk_far (blk_far (blk_far BKC9.out HNE.out _) HNE.out _) HNE.out _) 0).trans rfl, (blk_cell (blk_far (blk_far (blk_far BKC9.out HNE.out _) HNE.out _) HNE.out _) 2).trans rfl⟩ (fun hHeld => ?_)
      clear hK K
      refine pure_ (i := 13) (N := some 80) (v := ?_) (a' := ?_) #[true, true, true, true, true, true, true, true, true, true, true, true, true, true, false] rfl rfl (by kernel_rfl) (fun _ _ _ h => h) (Or.inl ⟨by rfl, ?_⟩) ?_ ?_
      rotate_left
      · intro w'
        go_simp
        with_reducible rfl
      rotate_left
      · simp only [Act.put, List.setIfInBounds_toArray, List.set_cons_zero, List.set_cons_succ, i64_w, i32_w]
        rfl
      refine one_ (i := 14) (N := none) #[true, true, true, true, true, true, true, true, true, true, true, true, true, true, true] rfl rfl (by kernel_rfl) (by decide) (fun K hK => ?_)
      refine skip_ (w1 := ?_) (by rfl) rfl ?_ ?_
      rotate_left
      · go_simp
        rfl
      refine hK.out _ _ ⟨(blk_cell (blk_far (blk_far (blk_far (blk_far BKC9.out HNE.out _) HNE.out _) HNE.out _) HNE.out _) 0).trans rfl, (blk_cell (blk_far (blk_far (blk_far (blk_far BKC9.out HNE.out _) HNE.out _) HNE.out _) HNE.out _) 2).trans rfl⟩ (fun hHeld => ?_)
      clear hK K
      refine done_ (by kernel_rfl) ?_
      have BKB10 := Aside0.mk (show ((((w9.setCell ⟨gb, 1, none⟩ (.slice Q (prependV l1 cA).length q)).setCell ⟨gb, 2, none⟩ (.int .u32 cN)).setCell ⟨gb, 3, none⟩ (.int .i64 (-1))).setCell ⟨gb, 4, none⟩ (.int .i64 (-1))).heap[gb]? = some (.cells #[.int .i64 o, .slice Q (prependV l1 cA).length q, .int .u32 cN, .int .i64 (-1), .int .i64 (-1), .slice B5 l5.length l5.length, .slice B6 l6.length l6.length] 34 (0, 0)) from (blk_put (cs' := #[.int .i64 o, .slice Q (prependV l1 cA).length q, .int .u32 cN, .int .i64 (-1), .int .i64 (-1), .slice B5 l5.length l5.length, .slice B6 l6.length l6.length]) (blk_put (cs' := #[.int .i64 o, .slice Q (prependV l1 cA).length q, .int .u32 cN, .int .i64 (-1), .int .i64 pr, .slice B5 l5.length l5.length, .slice B6 l6.length l6.length]) (blk_put (cs' := #[.int .i64 o, .slice Q (prependV l1 cA).length q, .int .u32 cN, .int .i64 md, .int .i64 pr, .slice B5 l5.length l5.length, .slice B6 l6.length l6.length]) (blk_put (cs' := #[.int .i64 o, .slice Q (prependV l1 cA).length q, .int .u32 nx, .int .i64 md, .int .i64 pr, .slice B5 l5.length l5.length, .slice B6 l6.length l6.length]) BKB9.out 1 (.slice Q (prependV l1 cA).length q) rfl) 2 (.int .u32 cN) rfl) 3 (.int .i64 (-1)) rfl) 4 (.int .i64 (-1)) rfl))
      have BKA10 := Aside0.mk (show ((((w9.setCell ⟨gb, 1, none⟩ (.slice Q (prependV l1 cA).length q)).setCell ⟨gb, 2, none⟩ (.int .u32 cN)).setCell ⟨gb, 3, none⟩ (.int .i64 (-1))).setCell ⟨gb, 4, none⟩ (.int .i64 (-1))).heap[ga]? = some (.cells #[.int .i64 0, .slice none 0 0, .int .u32 0, .int .i64 0, .int .i64 0, .slice none 0 0, .slice none 0 0] 34 (0, 0)) from ((Below.heap_setCell _ ⟨gb, 4, none⟩ _ ga (show ga ≠ gb from by have := GEB.out; omega)).trans ((Below.heap_setCell _ ⟨gb, 3, none⟩ _ ga (show ga ≠ gb from by have := GEB.out; omega)).trans ((Below.heap_setCell _ ⟨gb, 2, none⟩ _ ga (show ga ≠ gb from by have := GEB.out; omega)).trans ((Below.heap_setCell _ ⟨gb, 1, none⟩ _ ga (show ga ≠ gb from by have := GEB.out; omega)).trans BKA9.out)))))
      have HB10 := Aside0.mk (show Below w.heap.size w ((((w9.setCell ⟨gb, 1, none⟩ (.slice Q (prependV l1 cA).length q)).setCell ⟨gb, 2, none⟩ (.int .u32 cN)).setCell ⟨gb, 3, none⟩ (.int .i64 (-1))).setCell ⟨gb, 4, none⟩ (.int .i64 (-1))) from (Below.setCell (p := ⟨gb, 4, none⟩) (Below.setCell (p := ⟨gb, 3, none⟩) (Below.setCell (p := ⟨gb, 2, none⟩) (Below.setCell (p := ⟨gb, 1, none⟩) HB9.out (show w.heap.size ≤ gb from by have := GEC.out; have := GET.out; have := GER.out; have := GEA.out; have := GEB.out; omega) (.slice Q (prependV l1 cA).length q)) (show w.heap.size ≤ gb from by have := GEC.out; have := GET.out; have := GER.out; have := GEA.out; have := GEB.out; omega) (.int .u32 cN)) (show w.heap.size ≤ gb from by have := GEC.out; have := GET.out; have := GER.out; have := GEA.out; have := GEB.out; omega) (.int .i64 (-1))) (show w.heap.size ≤ gb from by have := GEC.out; have := GET.out; have := GER.out; have := GEA.out; have := GEB.out; omega) (.int .i64 (-1))))
      have HAT10 := Aside0.mk (show AttrsAt ((((w9.setCell ⟨gb, 1, none⟩ (.slice Q (prependV l1 cA).length q)).setCell ⟨gb, 2, none⟩ (.int .u32 cN)).setCell ⟨gb, 3, none⟩ (.int .i64 (-1))).setCell ⟨gb, 4, none⟩ (.int .i64 (-1))) _ _ _ _ _ _ _ _ _ _ _ from (AttrsAt.set (AttrsAt.set (AttrsAt.set (AttrsAt.set HAT9.out BKB9.out 1 _) (blk_put (cs' := #[.int .i64 o, .slice Q (prependV l1 cA).length q, .int .u32 nx, .int .i64 md, .int .i64 pr, .slice B5 l5.length l5.length, .slice B6 l6.length l6.length]) BKB9.out 1 (.slice Q (prependV l1 cA).length q) rfl) 2 _) (blk_put (cs' := #[.int .i64 o, .slice Q (prependV l1 cA).length q, .int .u32 cN, .int .i64 md, .int .i64 pr, .slice B5 l5.length l5.length, .slice B6 l6.length l6.length]) (blk_put (cs' := #[.int .i64 o, .slice Q (prependV l1 cA).length q, .int .u32 nx, .int .i64 md, .int .i64 pr, .slice B5 l5.length l5.length, .slice B6 l6.length l6.length]) BKB9.out 1 (.slice Q (prependV l1 cA).length q) rfl) 2 (.int .u32 cN) rfl) 3 _) (blk_put (cs' := #[.int .i64 o, .slice Q (prependV l1 cA).length q, .int .u32 cN, .int .i64 (-1), .int .i64 pr, .slice B5 l5.length l5.length, .slice B6 l6.length l6.length]) (blk_put (cs' := #[.int .i64 o, .slice Q (prependV l1 cA).length q, .int .u32 cN, .int .i64 md, .int .i64 pr, .slice B5 l5.length l5.length, .slice B6 l6.length l6.length]) (blk_put (cs' := #[.int .i64 o, .slice Q (prependV l1 cA).length q, .int .u32 nx, .int .i64 md, .int .i64 pr, .slice B5 l5.length l5.length, .slice B6 l6.length l6.length]) BKB9.out 1 (.slice Q (prependV l1 cA).length q) rfl) 2 (.int .u32 cN) rfl) 3 (.int .i64 (-1)) rfl) 4 _))
      have HKL := HQQ
      clear BKB9 BKA9 HB9 HAT9 BKC9 hs1 hs2 hs3 hs4 hsf1 hsf2 hsf3 hsf4
      generalize ((((w9.setCell ⟨gb, 1, none⟩ (.slice Q (prependV l1 cA).length q)).setCell ⟨gb, 2, none⟩ (.int .u32 cN)).setCell ⟨gb, 3, none⟩ (.int .i64 (-1))).setCell ⟨gb, 4, none⟩ (.int .i64 (-1))) = w10 at BKB10 BKA10 HB10 HAT10 ⊢
      have HK1 := Aside0.mk (AttrsAt.c1 HAT10.out)
      have HK5 := Aside0.mk (AttrsAt.c5 HAT10.out)
      have HK6 := Aside0.mk (AttrsAt.c6 HAT10.out)
      go_wp2_with (first | ((with_reducible refine gate_dst (N := 85) rfl ?_); (try (refine gate_guard (by rfl) ?_; dsimp only)); refine load_blk rfl 34 (.tmp 15) rfl (g := gb) (off := 0) [.int .i64 o, .slice Q (prependV l1 cA).length q, .int .u32 cN, .int .i64 (-1), .int .i64 (-1), .slice B5 l5.length l5.length, .slice B6 l6.length l6.length] _ rfl BKB10.out (self_x _) Try.underlying34 rfl (by kernel_rfl) ?_) | (go_at_call 26; with_reducible refine (attr_Good.calls k o Q q (prependV l1 cA) cN (-1) (-1) B5 l5.length l5 B6 l6.length l6 false _ HK1.out HKL.out HK5.out (Nat.le_refl _) HK6.out (Nat.le_refl _) HG.out).mono ?_; rintro e w12 ⟨rfl, hb⟩; have BKAG := Aside0.mk ((hb.block _ (blk_lt BKA10.out)).trans BKA10.out); have BKBG := Aside0.mk ((hb.block _ (blk_lt BKB10.out)).trans BKB10.out); have HBG := Aside0.mk (below_step HB10.out hb); have HM1 := Aside0.mk (Kd.C_below HK1.out hb); have HM5 := Aside0.mk (Kd.C_below HK5.out hb); have HM6 := Aside0.mk (Kd.C_below HK6.out hb); clear hb) | ((with_reducible refine gate_store (t := 34) (p := 10) rfl ?_); refine store_new rfl 34 (.tmp 10) (.tmp 88) rfl [.int .i64 0, .slice none 0 0, .int .u32 0, .int .i64 0, .int .i64 0, .slice none 0 0, .slice none 0 0] (by rfl) (by rfl) BKAG.out (by rfl) (by kernel_rfl) (by intro v hv; simp only [List.mem_cons, List.not_mem_nil, or_false] at hv; rcases hv with rfl | rfl | rfl | rfl | rfl | rfl | rfl <;> rfl) ?_; intro w13 hx hg hs; have BKF := Aside0.mk hx; have HBF := Aside0.mk (HBG.out.grown hg HBG.out.size (fun k e => by injection e with e; have := GEC.out; have := GET.out; have := GER.out; have := GEA.out; have := GEB.out; omega)); clear hx hg hs))
      refine bodyPost_ret (results_ct rfl _ _ ga 34 #[.int .i64 0, .slice none 0 0, .int .u32 0, .int .i64 0, .int .i64 0, .slice none 0 0, .slice none 0 0] (0, 0) _ rfl BKF.out Try.underlying34 rfl (by kernel_rfl)) rfl ?_
      exact ⟨rfl, HBF.out⟩
set_option maxHeartbeats 4000000 in
set_option maxRecDepth 100000 in
theorem export_all (k : Nat) (cA cI cN cH cG cL cS cD tN tA : Int) (AI : Option Addr) (nI cIn : Nat) (AO : Option Addr) (cOut : Nat) (lo : List S87) (ll : Bool) (pa pl pe o : Int) (A1 : Option Addr) (c1 : Nat) (l1 : List S69) (nx md pr : Int) (A5 : Option Addr) (c5 : Nat) (l5 : List Int) (A6 : Option Addr) (c6 : Nat) (l6 : List S73) (st fr : Int) (rp : Int) (al gd : Bool) (w : World) (hro : Kd.C k87 w AO lo.length lo) (hco : lo.length ≤ cOut) (hr1 : Kd.C k69 w A1 l1.length l1) (hc1 : l1.length ≤ c1) (hr5 : Kd.C (Kd.int .u32) w A5 l5.length l5) (hc5 : l5.length ≤ c5) (hr6 : Kd.C k73 w A6 l6.length l6) (hc6 : l6.length ≤ c6) (hp : policy_Apply.f lo pa pl = some (rp, al))
    (hgo : stopB cA tN tA al ll pe st fr = false → (l1.length < 4000 ∧ (∀ y ∈ l1, slices_Clone_int_int.f y.f1 = some y.f1) ∧ (∀ y ∈ l1, y.f1.length < 4000) ∧ slices_Clone_uint32_uint32.f l5 = some l5 ∧ l6.length < 4000 ∧ (∀ r ∈ l6, bytes_Clone.f r.f2 = some r.f2)) ∧ attr_Good.f k (outA cA cN tA o l1 nx md pr l5 l6).1 (outA cA cN tA o l1 nx md pr l5 l6).2.1 (outA cA cN tA o l1 nx md pr l5 l6).2.2.1 (outA cA cN tA o l1 nx md pr l5 l6).2.2.2.1 (outA cA cN tA o l1 nx md pr l5 l6).2.2.2.2.1 (outA cA cN tA o l1 nx md pr l5 l6).2.2.2.2.2.1 (outA cA cN tA o l1 nx md pr l5 l6).2.2.2.2.2.2 = some gd) :
    Calls Try.prog 10 #[.agg #[.int .i64 cA, .int .u32 cI, .int .u32 cN, .int .i64 cH, .int .i64 cG, .int .i64 cL, .int .i64 cS, .int .i64 cD], .agg #[.int .i64 tN, .int .i64 tA, .slice AI nI cIn, .slice AO lo.length cOut], .bool ll, .agg #[.int .u32 pa, .int .i64 pl, .int .i64 pe, .int .i64 o, .slice A1 l1.length c1, .int .u32 nx, .int .i64 md, .int .i64 pr, .slice A5 l5.length c5, .slice A6 l6.length c6, .int .i64 st], .int .i64 fr] w fun e w' => ∃ (x0 : Int) (X1 : Option Addr) (y1 : Nat) (p1 : List S69) (x2 x3 x4 : Int) (X5 : Option Addr) (y5 : Nat) (p5 : List Int) (X6 : Option Addr) (y6 : Nat) (p6 : List S73) (xb : Bool), e = .returned (.tuple #[.agg #[.int .i64 x0, .slice X1 p1.length y1, .int .u32 x2, .int .i64 x3, .int .i64 x4, .slice X5 p5.length y5, .slice X6 p6.length y6], .bool xb]) ∧ (p1.length ≤ y1 ∧ p5.length ≤ y5 ∧ p6.length ≤ y6) ∧ Kd.C k69 w' X1 p1.length p1 ∧ Kd.C (Kd.int .u32) w' X5 p5.length p5 ∧ Kd.C k73 w' X6 p6.length p6 ∧ Below w.heap.size w w' ∧ expV (stopB cA tN tA al ll pe st fr) gd (outA cA cN tA o l1 nx md pr l5 l6) = (x0, p1, x2, x3, x4, p5, p6, xb) := by
  have zero : ∀ (e : Ending) (w' : World), (expV (stopB cA tN tA al ll pe st fr) gd (outA cA cN tA o l1 nx md pr l5 l6) = (0, [], 0, 0, 0, [], [], false)) → (e = .returned (.tuple #[.agg #[.int .i64 0, .slice none 0 0, .int .u32 0, .int .i64 0, .int .i64 0, .slice none 0 0, .slice none 0 0], .bool false]) ∧ Below w.heap.size w w') → ∃ (x0 : Int) (X1 : Option Addr) (y1 : Nat) (p1 : List S69) (x2 x3 x4 : Int) (X5 : Option Addr) (y5 : Nat) (p5 : List Int) (X6 : Option Addr) (y6 : Nat) (p6 : List S73) (xb : Bool), e = .returned (.tuple #[.agg #[.int .i64 x0, .slice X1 p1.length y1, .int .u32 x2, .int .i64 x3, .int .i64 x4, .slice X5 p5.length y5, .slice X6 p6.length y6], .bool xb]) ∧ (p1.length ≤ y1 ∧ p5.length ≤ y5 ∧ p6.length ≤ y6) ∧ Kd.C k69 w' X1 p1.length p1 ∧ Kd.C (Kd.int .u32) w' X5 p5.length p5 ∧ Kd.C k73 w' X6 p6.length p6 ∧ Below w.heap.size w w' ∧ expV (stopB cA tN tA al ll pe st fr) gd (outA cA cN tA o l1 nx md pr l5 l6) = (x0, p1, x2, x3, x4, p5, p6, xb) :=
    fun e w' hv h => ⟨0, none, 0, [], 0, 0, 0, none, 0, [], none, 0, [], false, h.1, ⟨Nat.le_refl _, Nat.le_refl _, Nat.le_refl _⟩, Kd.C_nil _ _, Kd.C_nil _ _, Kd.C_nil _ _, h.2, hv⟩
  cases hst : stopB cA tN tA al ll pe st fr with
  | true =>
    rw [hst] at zero
    exact (export_stop k cA cI cN cH cG cL cS cD tN tA AI nI cIn AO cOut lo ll pa pl pe o A1 c1 l1 nx md pr A5 c5 l5 A6 c6 l6 st fr rp al gd w hro hco hr1 hc1 hr5 hc5 hr6 hc6 hp hst).mono (fun e w' h => zero e w' (by unfold expV; rw [if_pos (Or.inl rfl)]) h)
  | false =>
    rw [hst] at zero
    obtain ⟨⟨h4, hd1, h4y, h5, h6, hd⟩, hg⟩ := hgo hst
    by_cases heq : tA = cA
    · by_cases hpr : pr = -1
      · have hout : outA cA cN tA o l1 nx md pr l5 l6 = (o, l1, nx, md, 100, l5, l6) := by unfold outA; rw [if_pos heq, if_pos hpr]
        rw [hout] at hg zero ⊢
        cases gd with
        | false => exact (export_dflt_false k cA cI cN cH cG cL cS cD tN tA AI nI cIn AO cOut lo ll pa pl pe o A1 c1 l1 nx md pr A5 c5 l5 A6 c6 l6 st fr rp al false w hro hco hr1 hc1 hr5 hc5 hr6 hc6 hp h4 hd1 h4y h5 h6 hd hst heq hpr hg).mono (fun e w' h => zero e w' rfl h)
        | true =>
          refine (export_dflt_true k cA cI cN cH cG cL cS cD tN tA AI nI cIn AO cOut lo ll pa pl pe o A1 c1 l1 nx md pr A5 c5 l5 A6 c6 l6 st fr rp al true w hro hco hr1 hc1 hr5 hc5 hr6 hc6 hp h4 hd1 h4y h5 h6 hd hst heq hpr hg).mono ?_
          rintro e w' ⟨X1, y1, X5, X6, rfl, g1, g2, g3, g4, hb⟩
          exact ⟨o, X1, y1, l1, nx, md, 100, X5, l5.length, l5, X6, l6.length, l6, true, rfl, ⟨g1, Nat.le_refl _, Nat.le_refl _⟩, g2, g3, g4, hb, rfl⟩
      · have hout : outA cA cN tA o l1 nx md pr l5 l6 = (o, l1, nx, md, pr, l5, l6) := by unfold outA; rw [if_pos heq, if_neg hpr]
        rw [hout] at hg zero ⊢
        cases gd with
        | false => exact (export_keep_false k cA cI cN cH cG cL cS cD tN tA AI nI cIn AO cOut lo ll pa pl pe o A1 c1 l1 nx md pr A5 c5 l5 A6 c6 l6 st fr rp al false w hro hco hr1 hc1 hr5 hc5 hr6 hc6 hp h4 hd1 h4y h5 h6 hd hst heq hpr hg).mono (fun e w' h => zero e w' rfl h)
        | true =>
          refine (export_keep_true k cA cI cN cH cG cL cS cD tN tA AI nI cIn AO cOut lo ll pa pl pe o A1 c1 l1 nx md pr A5 c5 l5 A6 c6 l6 st fr rp al true w hro hco hr1 hc1 hr5 hc5 hr6 hc6 hp h4 hd1 h4y h5 h6 hd hst heq hpr hg).mono ?_
          rintro e w' ⟨X1, y1, X5, X6, rfl, g1, g2, g3, g4, hb⟩
          exact ⟨o, X1, y1, l1, nx, md, pr, X5, l5.length, l5, X6, l6.length, l6, true, rfl, ⟨g1, Nat.le_refl _, Nat.le_refl _⟩, g2, g3, g4, hb, rfl⟩
    · have hout : outA cA cN tA o l1 nx md pr l5 l6 = (o, prependV l1 cA, cN, -1, -1, l5, l6) := by unfold outA; rw [if_neg heq]
      rw [hout] at hg zero ⊢
      cases gd with
      | false => exact (export_ext_false k cA cI cN cH cG cL cS cD tN tA AI nI cIn AO cOut lo ll pa pl pe o A1 c1 l1 nx md pr A5 c5 l5 A6 c6 l6 st fr rp al false w hro hco hr1 hc1 hr5 hc5 hr6 hc6 hp h4 hd1 h4y h5 h6 hd hst heq hg).mono (fun e w' h => zero e w' rfl h)
      | true =>
        refine (export_ext_true k cA cI cN cH cG cL cS cD tN tA AI nI cIn AO cOut lo ll pa pl pe o A1 c1 l1 nx md pr A5 c5 l5 A6 c6 l6 st fr rp al true w hro hco hr1 hc1 hr5 hc5 hr6 hc6 hp h4 hd1 h4y h5 h6 hd hst heq hg).mono ?_
        rintro e w' ⟨X1, y1, X5, X6, rfl, g1, g2, g3, g4, hb⟩
        exact ⟨o, X1, y1, prependV l1 cA, cN, -1, -1, X5, l5.length, l5, X6, l6.length, l6, true, rfl, ⟨g1, Nat.le_refl _, Nat.le_refl _⟩, g2, g3, g4, hb, rfl⟩
open Go.Proofs.Ytjdebhkdbdbepaa.Mid
set_option maxHeartbeats 4000000 in
set_option maxRecDepth 100000 in
theorem same_zero (X1 X5 X6 : Option Addr) (y1 y5 y6 : Nat) (w : World) (h1 : Kd.C k69 w X1 0 []) : Calls Try.prog 12 #[.agg #[.int .i64 0, .slice X1 0 y1, .int .u32 0, .int .i64 0, .int .i64 0, .slice X5 0 y5, .slice X6 0 y6], .agg #[.int .i64 0, .slice none 0 0, .int .u32 0, .int .i64 0, .int .i64 0, .slice none 0 0, .slice none 0 0]] w fun e w' => e = .returned (.bool true) ∧ Below w.heap.size w w' := by
  have H1 := Aside0.mk h1
  clear h1
  have HB := Aside0.mk (Below.refl w.heap.size w)
  go_enter Try.func12, Try.ntmps12
  go_upto_region 1 with (first | ((with_reducible refine gate_dst (N := 2) rfl ?_); refine box_event ?hg (N := 2) ?hd (cs := #[.int .i64 0, .slice X1 0 y1, .int .u32 0, .int .i64 0, .int .i64 0, .slice X5 0 y5, .slice X6 0 y6]) (t := 34) ?hr ?_; (case hd => rfl); (case hg => rfl); (case hr => first | (go_simp; done) | (go_simp; rfl)); intro g2 hg w1 hbox hb; have HB1 := Aside0.mk (below_step HB.out hb); have BKC1 := Aside0.mk hbox; clear hbox hb hg) | ((with_reducible refine gate_dst (N := 3) rfl ?_); refine box_event ?hg (N := 3) ?hd (cs := #[.int .i64 0, .slice none 0 0, .int .u32 0, .int .i64 0, .int .i64 0, .slice none 0 0, .slice none 0 0]) (t := 34) ?hr ?_; (case hd => rfl); (case hg => rfl); (case hr => first | (go_simp; done) | (go_simp; rfl)); intro g3 hg w2 hbox hb; have BKC2 := Aside0.mk ((hb.block _ (blk_lt BKC1.out)).trans BKC1.out); have HB2 := Aside0.mk (below_step HB1.out hb); have BKT2 := Aside0.mk hbox; clear hbox hb hg))
  have hc0 : w2.cell? ⟨g2, 0, none⟩ = some (.int .i64 0) := (blk_cell BKC2.out 0).trans rfl; have hc1 : w2.cell? ⟨g2, 1, none⟩ = some (.slice X1 0 y1) := (blk_cell BKC2.out 1).trans rfl; have hc2 : w2.cell? ⟨g2, 2, none⟩ = some (.int .u32 0) := (blk_cell BKC2.out 2).trans rfl; have hc3 : w2.cell? ⟨g2, 3, none⟩ = some (.int .i64 0) := (blk_cell BKC2.out 3).trans rfl; have hc4 : w2.cell? ⟨g2, 4, none⟩ = some (.int .i64 0) := (blk_cell BKC2.out 4).trans rfl; have hc5 : w2.cell? ⟨g2, 5, none⟩ = some (.slice X5 0 y5) := (blk_cell BKC2.out 5).trans rfl; have hc6 : w2.cell? ⟨g2, 6, none⟩ = some (.slice X6 0 y6) := (blk_cell BKC2.out 6).trans rfl; have ht0 : w2.cell? ⟨g3, 0, none⟩ = some (.int .i64 0) := (blk_cell BKT2.out 0).trans rfl; have ht1 : w2.cell? ⟨g3, 1, none⟩ = some (.slice none 0 0) := (blk_cell BKT2.out 1).trans rfl; have ht2 : w2.cell? ⟨g3, 2, none⟩ = some (.int .u32 0) := (blk_cell BKT2.out 2).trans rfl; have ht3 : w2.cell? ⟨g3, 3, none⟩ = some (.int .i64 0) := (blk_cell BKT2.out 3).trans rfl; have ht4 : w2.cell? ⟨g3, 4, none⟩ = some (.int .i64 0) := (blk_cell BKT2.out 4).trans rfl; have ht5 : w2.cell? ⟨g3, 5, none⟩ = some (.slice none 0 0) := (blk_cell BKT2.out 5).trans rfl; have ht6 : w2.cell? ⟨g3, 6, none⟩ = some (.slice none 0 0) := (blk_cell BKT2.out 6).trans rfl
  go_upto_region 3 with (go_at_call 15; refine (interregnumref05_SamePath.calls 1 X1 y1 [] none 0 [] true _ (Kd.C_below H1.out HB2.out) (Nat.zero_le _) (Kd.C_nil _ _) (Nat.le_refl _) (by rfl)).mono ?_; rintro e wh ⟨rfl, ⟨nd, rfl⟩⟩)
  go_wp2
  go_loopg [5] 1 (fun kq v5 wr => v5 = .int .i64 0 ∧ wr = w2.drewN nd)
  case atStart => exact ⟨rfl, rfl⟩
  case round =>
    obtain ⟨rfl, hwr⟩ := hrel
    have hwr := hwr.symm
    subst hwr
    go_wp2
    go_loopg [6] 1 (fun kq v6 wr => v6 = .int .i64 0 ∧ wr = w2.drewN nd)
    case atStart => exact ⟨rfl, rfl⟩
    case round =>
      obtain ⟨rfl, hwr⟩ := hrel
      have hwr := hwr.symm
      subst hwr
      go_wp2
      go_ret
      exact ⟨rfl, pw_below_drewN HB2.out _⟩
set_option maxHeartbeats 4000000 in
set_option maxRecDepth 100000 in
open Go.Proofs.Ytjdebhkdbdbepaa.Mid in
theorem loops_not (k : Nat) (cA cI cN cH cG cL cS cD tN tA : Int) (AI : Option Addr) (nI cIn : Nat) (AO : Option Addr) (cOut : Nat) (lo : List S87) (pa pl pe o : Int) (A1 : Option Addr) (c1 : Nat) (l1 : List S69) (nx md pr : Int) (A5 : Option Addr) (c5 : Nat) (l5 : List Int) (A6 : Option Addr) (c6 : Nat) (l6 : List S73) (st fr : Int) (sm : Bool) (w : World) (hro : Kd.C k87 w AO lo.length lo) (hco : lo.length ≤ cOut) (hr1 : Kd.C k69 w A1 l1.length l1) (hc1 : l1.length ≤ c1) (hr5 : Kd.C (Kd.int .u32) w A5 l5.length l5) (hc5 : l5.length ≤ c5) (hr6 : Kd.C k73 w A6 l6.length l6) (hc6 : l6.length ≤ c6) (hs : interregnumlaw16_small.f k o l1 nx md pr l5 l6 = some sm) (hc : (!sm || decide (100 < (lo.length : Int))) = true) :
    Calls Try.prog 4 #[.agg #[.int .i64 cA, .int .u32 cI, .int .u32 cN, .int .i64 cH, .int .i64 cG, .int .i64 cL, .int .i64 cS, .int .i64 cD], .agg #[.int .i64 tN, .int .i64 tA, .slice AI nI cIn, .slice AO lo.length cOut], .agg #[.int .u32 pa, .int .i64 pl, .int .i64 pe, .int .i64 o, .slice A1 l1.length c1, .int .u32 nx, .int .i64 md, .int .i64 pr, .slice A5 l5.length c5, .slice A6 l6.length c6, .int .i64 st], .int .i64 fr] w fun e w' => e = .returned (.bool true) ∧ Below w.heap.size w w' := by
  have HS := Aside0.mk hs
  clear hs
  have HRO := Aside0.mk hro
  have HCO := Aside0.mk hco
  have HR1 := Aside0.mk hr1
  have HC1 := Aside0.mk hc1
  have HR5 := Aside0.mk hr5
  have HC5 := Aside0.mk hc5
  have HR6 := Aside0.mk hr6
  have HC6 := Aside0.mk hc6
  have hu24 := Try.underlying24
  have hu27 := Try.underlying27
  have hu36 := Try.underlying36
  have hu34 := Try.underlying34
  have HB := Aside0.mk (Below.refl w.heap.size w)
  clear hro hco hr1 hc1 hr5 hc5 hr6 hc6
  rcases sm with _ | _
  · clear hc
    go_enter Try.func4, Try.ntmps4
    go_upto_region 1 with (first | ((with_reducible refine gate_dst (N := 4) rfl ?_); refine box_event ?hg (N := 4) ?hd (cs := #[.int .i64 cA, .int .u32 cI, .int .u32 cN, .int .i64 cH, .int .i64 cG, .int .i64 cL, .int .i64 cS, .int .i64 cD]) (t := 24) ?hr ?_; (case hd => rfl); (case hg => rfl); (case hr => first | (go_simp; done) | (go_simp; rfl)); intro gc hg w1 hbox hb; have HB1 := Aside0.mk (below_step HB.out hb); have BKC1 := Aside0.mk hbox; have GEC := Aside0.mk (show w.heap.size ≤ gc from by rw [hg]; exact Nat.le_refl _); clear hbox hb hg) | ((with_reducible refine gate_dst (N := 5) rfl ?_); refine box_event ?hg (N := 5) ?hd (cs := #[.int .i64 tN, .int .i64 tA, .slice AI nI cIn, .slice AO lo.length cOut]) (t := 27) ?hr ?_; (case hd => rfl); (case hg => rfl); (case hr => first | (go_simp; done) | (go_simp; rfl)); intro gt hg w2 hbox hb; have BKC2 := Aside0.mk ((hb.block _ (blk_lt BKC1.out)).trans BKC1.out); have HB2 := Aside0.mk (below_step HB1.out hb); have BKT2 := Aside0.mk hbox; have GET := Aside0.mk (show gc < gt from by rw [hg]; exact blk_lt BKC1.out); clear hbox hb hg) | ((with_reducible refine gate_dst (N := 6) rfl ?_); refine box_event ?hg (N := 6) ?hd (cs := #[.int .u32 pa, .int .i64 pl, .int .i64 pe, .int .i64 o, .slice A1 l1.length c1, .int .u32 nx, .int .i64 md, .int .i64 pr, .slice A5 l5.length c5, .slice A6 l6.length c6, .int .i64 st]) (t := 36) ?hr ?_; (case hd => rfl); (case hg => rfl); (case hr => first | (go_simp; done) | (go_simp; rfl)); intro gr hg w3 hbox hb; have BKC3 := Aside0.mk ((hb.block _ (blk_lt BKC2.out)).trans BKC2.out); have BKT3 := Aside0.mk ((hb.block _ (blk_lt BKT2.out)).trans BKT2.out); have HB3 := Aside0.mk (below_step HB2.out hb); have BKR3 := Aside0.mk hbox; have GER := Aside0.mk (show gt < gr from by rw [hg]; exact blk_lt BKT2.out); clear hbox hb hg))
    go_wp2_with (first | ((with_reducible refine gate_dst (N := 14) rfl ?_); (try (refine gate_guard (by rfl) ?_; dsimp only)); refine load_blk rfl 34 (.tmp 13) rfl (g := gr) (off := 3) [.int .i64 o, .slice A1 l1.length c1, .int .u32 nx, .int .i64 md, .int .i64 pr, .slice A5 l5.length c5, .slice A6 l6.length c6] _ rfl BKR3.out (seven_x pa pl pe o A1 l1.length c1 nx md pr A5 l5.length c5 A6 l6.length c6 st) Try.underlying34 rfl (by kernel_rfl) ?_) | (go_at_call 8; refine (interregnumlaw16_small.calls k o A1 c1 l1 nx md pr A5 c5 l5 A6 c6 l6 false _ (Kd.C_below HR1.out HB3.out) HC1.out (Kd.C_below HR5.out HB3.out) HC5.out (Kd.C_below HR6.out HB3.out) HC6.out HS.out).mono ?_; rintro e w4 ⟨rfl, hb⟩; have BKC4 := Aside0.mk ((hb.block _ (blk_lt BKC3.out)).trans BKC3.out); have BKT4 := Aside0.mk ((hb.block _ (blk_lt BKT3.out)).trans BKT3.out); have BKR4 := Aside0.mk ((hb.block _ (blk_lt BKR3.out)).trans BKR3.out); have HB4 := Aside0.mk (below_step HB3.out hb); have hT3 : w4.cell? ⟨gt, 3, none⟩ = some (.slice AO lo.length cOut) := (blk_cell BKT4.out 3).trans rfl; clear hb) | (go_at_call 9; with_reducible refine (answers_ _).mono ?_; rintro e w5 ⟨rfl, hb⟩; have HB5 := Aside0.mk (below_step HB4.out hb); clear hb))
    go_ret
    exact ⟨rfl, HB5.out⟩
  · have e1 : decide (100 < (lo.length : Int)) = true := hc
    clear hc
    go_enter Try.func4, Try.ntmps4
    go_upto_region 1 with (first | ((with_reducible refine gate_dst (N := 4) rfl ?_); refine box_event ?hg (N := 4) ?hd (cs := #[.int .i64 cA, .int .u32 cI, .int .u32 cN, .int .i64 cH, .int .i64 cG, .int .i64 cL, .int .i64 cS, .int .i64 cD]) (t := 24) ?hr ?_; (case hd => rfl); (case hg => rfl); (case hr => first | (go_simp; done) | (go_simp; rfl)); intro gc hg w1 hbox hb; have HB1 := Aside0.mk (below_step HB.out hb); have BKC1 := Aside0.mk hbox; have GEC := Aside0.mk (show w.heap.size ≤ gc from by rw [hg]; exact Nat.le_refl _); clear hbox hb hg) | ((with_reducible refine gate_dst (N := 5) rfl ?_); refine box_event ?hg (N := 5) ?hd (cs := #[.int .i64 tN, .int .i64 tA, .slice AI nI cIn, .slice AO lo.length cOut]) (t := 27) ?hr ?_; (case hd => rfl); (case hg => rfl); (case hr => first | (go_simp; done) | (go_simp; rfl)); intro gt hg w2 hbox hb; have BKC2 := Aside0.mk ((hb.block _ (blk_lt BKC1.out)).trans BKC1.out); have HB2 := Aside0.mk (below_step HB1.out hb); have BKT2 := Aside0.mk hbox; have GET := Aside0.mk (show gc < gt from by rw [hg]; exact blk_lt BKC1.out); clear hbox hb hg) | ((with_reducible refine gate_dst (N := 6) rfl ?_); refine box_event ?hg (N := 6) ?hd (cs := #[.int .u32 pa, .int .i64 pl, .int .i64 pe, .int .i64 o, .slice A1 l1.length c1, .int .u32 nx, .int .i64 md, .int .i64 pr, .slice A5 l5.length c5, .slice A6 l6.length c6, .int .i64 st]) (t := 36) ?hr ?_; (case hd => rfl); (case hg => rfl); (case hr => first | (go_simp; done) | (go_simp; rfl)); intro gr hg w3 hbox hb; have BKC3 := Aside0.mk ((hb.block _ (blk_lt BKC2.out)).trans BKC2.out); have BKT3 := Aside0.mk ((hb.block _ (blk_lt BKT2.out)).trans BKT2.out); have HB3 := Aside0.mk (below_step HB2.out hb); have BKR3 := Aside0.mk hbox; have GER := Aside0.mk (show gt < gr from by rw [hg]; exact blk_lt BKT2.out); clear hbox hb hg))
    go_wp2_with (first | ((with_reducible refine gate_dst (N := 14) rfl ?_); (try (refine gate_guard (by rfl) ?_; dsimp only)); refine load_blk rfl 34 (.tmp 13) rfl (g := gr) (off := 3) [.int .i64 o, .slice A1 l1.length c1, .int .u32 nx, .int .i64 md, .int .i64 pr, .slice A5 l5.length c5, .slice A6 l6.length c6] _ rfl BKR3.out (seven_x pa pl pe o A1 l1.length c1 nx md pr A5 l5.length c5 A6 l6.length c6 st) Try.underlying34 rfl (by kernel_rfl) ?_) | (go_at_call 8; refine (interregnumlaw16_small.calls k o A1 c1 l1 nx md pr A5 c5 l5 A6 c6 l6 true _ (Kd.C_below HR1.out HB3.out) HC1.out (Kd.C_below HR5.out HB3.out) HC5.out (Kd.C_below HR6.out HB3.out) HC6.out HS.out).mono ?_; rintro e w4 ⟨rfl, hb⟩; have BKC4 := Aside0.mk ((hb.block _ (blk_lt BKC3.out)).trans BKC3.out); have BKT4 := Aside0.mk ((hb.block _ (blk_lt BKT3.out)).trans BKT3.out); have BKR4 := Aside0.mk ((hb.block _ (blk_lt BKR3.out)).trans BKR3.out); have HB4 := Aside0.mk (below_step HB3.out hb); have hT3 : w4.cell? ⟨gt, 3, none⟩ = some (.slice AO lo.length cOut) := (blk_cell BKT4.out 3).trans rfl; clear hb) | (go_at_call 9; with_reducible refine (answers_ _).mono ?_; rintro e w5 ⟨rfl, hb⟩; have HB5 := Aside0.mk (below_step HB4.out hb); clear hb))
    go_ret
    exact ⟨rfl, HB5.out⟩
set_option maxHeartbeats 4000000 in
set_option maxRecDepth 100000 in
open Go.Proofs.Ytjdebhkdbdbepaa.Mid in
theorem loops_no (k : Nat) (cA cI cN cH cG cL cS cD tN tA : Int) (AI : Option Addr) (nI cIn : Nat) (AO : Option Addr) (cOut : Nat) (lo : List S87) (pa pl pe o : Int) (A1 : Option Addr) (c1 : Nat) (l1 : List S69) (nx md pr : Int) (A5 : Option Addr) (c5 : Nat) (l5 : List Int) (A6 : Option Addr) (c6 : Nat) (l6 : List S73) (st fr : Int) (rp : Int) (al gd : Bool) (w : World) (hro : Kd.C k87 w AO lo.length lo) (hco : lo.length ≤ cOut) (hr1 : Kd.C k69 w A1 l1.length l1) (hc1 : l1.length ≤ c1) (hr5 : Kd.C (Kd.int .u32) w A5 l5.length l5) (hc5 : l5.length ≤ c5) (hr6 : Kd.C k73 w A6 l6.length l6) (hc6 : l6.length ≤ c6) (hs : interregnumlaw16_small.f k o l1 nx md pr l5 l6 = some true) (hl : decide (100 < (lo.length : Int)) = false) (hp : policy_Apply.f lo pa pl = some (rp, al)) (hgo : stopB cA tN tA al true pe st fr = false → (l1.length < 4000 ∧ (∀ y ∈ l1, slices_Clone_int_int.f y.f1 = some y.f1) ∧ (∀ y ∈ l1, y.f1.length < 4000) ∧ slices_Clone_uint32_uint32.f l5 = some l5 ∧ l6.length < 4000 ∧ (∀ r ∈ l6, bytes_Clone.f r.f2 = some r.f2)) ∧ attr_Good.f k (outA cA cN tA o l1 nx md pr l5 l6).1 (outA cA cN tA o l1 nx md pr l5 l6).2.1 (outA cA cN tA o l1 nx md pr l5 l6).2.2.1 (outA cA cN tA o l1 nx md pr l5 l6).2.2.2.1 (outA cA cN tA o l1 nx md pr l5 l6).2.2.2.2.1 (outA cA cN tA o l1 nx md pr l5 l6).2.2.2.2.2.1 (outA cA cN tA o l1 nx md pr l5 l6).2.2.2.2.2.2 = some gd) (hz : expV (stopB cA tN tA al true pe st fr) gd (outA cA cN tA o l1 nx md pr l5 l6) = (0, [], 0, 0, 0, [], [], false)) :
    Calls Try.prog 4 #[.agg #[.int .i64 cA, .int .u32 cI, .int .u32 cN, .int .i64 cH, .int .i64 cG, .int .i64 cL, .int .i64 cS, .int .i64 cD], .agg #[.int .i64 tN, .int .i64 tA, .slice AI nI cIn, .slice AO lo.length cOut], .agg #[.int .u32 pa, .int .i64 pl, .int .i64 pe, .int .i64 o, .slice A1 l1.length c1, .int .u32 nx, .int .i64 md, .int .i64 pr, .slice A5 l5.length c5, .slice A6 l6.length c6, .int .i64 st], .int .i64 fr] w fun e w' => e = .returned (.bool true) ∧ Below w.heap.size w w' := by
  have HS := Aside0.mk hs
  have HP := Aside0.mk hp
  have HGO := Aside0.mk hgo
  have HZ := Aside0.mk hz
  clear hs hp hgo hz
  have HRO := Aside0.mk hro
  have HCO := Aside0.mk hco
  have HR1 := Aside0.mk hr1
  have HC1 := Aside0.mk hc1
  have HR5 := Aside0.mk hr5
  have HC5 := Aside0.mk hc5
  have HR6 := Aside0.mk hr6
  have HC6 := Aside0.mk hc6
  have hu24 := Try.underlying24
  have hu27 := Try.underlying27
  have hu36 := Try.underlying36
  have hu34 := Try.underlying34
  have HB := Aside0.mk (Below.refl w.heap.size w)
  clear hro hco hr1 hc1 hr5 hc5 hr6 hc6
  have e1 := hl
  clear hl
  go_enter Try.func4, Try.ntmps4
  go_upto_region 1 with (first | ((with_reducible refine gate_dst (N := 4) rfl ?_); refine box_event ?hg (N := 4) ?hd (cs := #[.int .i64 cA, .int .u32 cI, .int .u32 cN, .int .i64 cH, .int .i64 cG, .int .i64 cL, .int .i64 cS, .int .i64 cD]) (t := 24) ?hr ?_; (case hd => rfl); (case hg => rfl); (case hr => first | (go_simp; done) | (go_simp; rfl)); intro gc hg w1 hbox hb; have HB1 := Aside0.mk (below_step HB.out hb); have BKC1 := Aside0.mk hbox; have GEC := Aside0.mk (show w.heap.size ≤ gc from by rw [hg]; exact Nat.le_refl _); clear hbox hb hg) | ((with_reducible refine gate_dst (N := 5) rfl ?_); refine box_event ?hg (N := 5) ?hd (cs := #[.int .i64 tN, .int .i64 tA, .slice AI nI cIn, .slice AO lo.length cOut]) (t := 27) ?hr ?_; (case hd => rfl); (case hg => rfl); (case hr => first | (go_simp; done) | (go_simp; rfl)); intro gt hg w2 hbox hb; have BKC2 := Aside0.mk ((hb.block _ (blk_lt BKC1.out)).trans BKC1.out); have HB2 := Aside0.mk (below_step HB1.out hb); have BKT2 := Aside0.mk hbox; have GET := Aside0.mk (show gc < gt from by rw [hg]; exact blk_lt BKC1.out); clear hbox hb hg) | ((with_reducible refine gate_dst (N := 6) rfl ?_); refine box_event ?hg (N := 6) ?hd (cs := #[.int .u32 pa, .int .i64 pl, .int .i64 pe, .int .i64 o, .slice A1 l1.length c1, .int .u32 nx, .int .i64 md, .int .i64 pr, .slice A5 l5.length c5, .slice A6 l6.length c6, .int .i64 st]) (t := 36) ?hr ?_; (case hd => rfl); (case hg => rfl); (case hr => first | (go_simp; done) | (go_simp; rfl)); intro gr hg w3 hbox hb; have BKC3 := Aside0.mk ((hb.block _ (blk_lt BKC2.out)).trans BKC2.out); have BKT3 := Aside0.mk ((hb.block _ (blk_lt BKT2.out)).trans BKT2.out); have HB3 := Aside0.mk (below_step HB2.out hb); have BKR3 := Aside0.mk hbox; have GER := Aside0.mk (show gt < gr from by rw [hg]; exact blk_lt BKT2.out); clear hbox hb hg))
  go_upto_region 3 with (first | ((with_reducible refine gate_dst (N := 14) rfl ?_); (try (refine gate_guard (by rfl) ?_; dsimp only)); refine load_blk rfl 34 (.tmp 13) rfl (g := gr) (off := 3) [.int .i64 o, .slice A1 l1.length c1, .int .u32 nx, .int .i64 md, .int .i64 pr, .slice A5 l5.length c5, .slice A6 l6.length c6] _ rfl BKR3.out (seven_x pa pl pe o A1 l1.length c1 nx md pr A5 l5.length c5 A6 l6.length c6 st) Try.underlying34 rfl (by kernel_rfl) ?_) | (go_at_call 8; refine (interregnumlaw16_small.calls k o A1 c1 l1 nx md pr A5 c5 l5 A6 c6 l6 true _ (Kd.C_below HR1.out HB3.out) HC1.out (Kd.C_below HR5.out HB3.out) HC5.out (Kd.C_below HR6.out HB3.out) HC6.out HS.out).mono ?_; rintro e w4 ⟨rfl, hb⟩; have BKC4 := Aside0.mk ((hb.block _ (blk_lt BKC3.out)).trans BKC3.out); have BKT4 := Aside0.mk ((hb.block _ (blk_lt BKT3.out)).trans BKT3.out); have BKR4 := Aside0.mk ((hb.block _ (blk_lt BKR3.out)).trans BKR3.out); have HB4 := Aside0.mk (below_step HB3.out hb); have hT3 : w4.cell? ⟨gt, 3, none⟩ = some (.slice AO lo.length cOut) := (blk_cell BKT4.out 3).trans rfl; clear hb))
  clear hT3 e1
  go_upto_region 4 with (first | ((with_reducible refine gate_dst (N := 25) rfl ?_); (try (refine gate_guard (by rfl) ?_; dsimp only)); refine load_blk rfl 24 (.tmp 4) rfl (g := gc) (off := 0) [.int .i64 cA, .int .u32 cI, .int .u32 cN, .int .i64 cH, .int .i64 cG, .int .i64 cL, .int .i64 cS, .int .i64 cD] _ rfl BKC4.out (self_x _) Try.underlying24 rfl (by kernel_rfl) ?_) | ((with_reducible refine gate_dst (N := 26) rfl ?_); (try (refine gate_guard (by rfl) ?_; dsimp only)); refine load_blk rfl 27 (.tmp 5) rfl (g := gt) (off := 0) [.int .i64 tN, .int .i64 tA, .slice AI nI cIn, .slice AO lo.length cOut] _ rfl BKT4.out (self_x _) Try.underlying27 rfl (by kernel_rfl) ?_) | ((with_reducible refine gate_dst (N := 27) rfl ?_); (try (refine gate_guard (by rfl) ?_; dsimp only)); refine load_blk rfl 36 (.tmp 6) rfl (g := gr) (off := 0) [.int .u32 pa, .int .i64 pl, .int .i64 pe, .int .i64 o, .slice A1 l1.length c1, .int .u32 nx, .int .i64 md, .int .i64 pr, .slice A5 l5.length c5, .slice A6 l6.length c6, .int .i64 st] _ rfl BKR4.out (self_x _) Try.underlying36 rfl (by kernel_rfl) ?_) | (go_at_call 10; refine (export_all k cA cI cN cH cG cL cS cD tN tA AI nI cIn AO cOut lo true pa pl pe o A1 c1 l1 nx md pr A5 c5 l5 A6 c6 l6 st fr rp al gd _ (Kd.C_below HRO.out HB4.out) HCO.out (Kd.C_below HR1.out HB4.out) HC1.out (Kd.C_below HR5.out HB4.out) HC5.out (Kd.C_below HR6.out HB4.out) HC6.out HP.out HGO.out).mono ?_; rintro e w5 ⟨x0, X1, y1, p1, x2, x3, x4, X5, y5, p5, X6, y6, p6, xb, rfl, hy, hk1, hk5, hk6, hb, hv⟩; rw [HZ.out] at hv; simp only [Prod.mk.injEq] at hv; obtain ⟨rfl, rfl, rfl, rfl, rfl, rfl, rfl, rfl⟩ := hv; have HY := Aside0.mk hy; have HK1 := Aside0.mk hk1; have HK5 := Aside0.mk hk5; have HK6 := Aside0.mk hk6; have BKC5 := Aside0.mk ((hb.block _ (blk_lt BKC4.out)).trans BKC4.out); have BKT5 := Aside0.mk ((hb.block _ (blk_lt BKT4.out)).trans BKT4.out); have BKR5 := Aside0.mk ((hb.block _ (blk_lt BKR4.out)).trans BKR4.out); have HB5 := Aside0.mk (below_step HB4.out hb); have HW5 := Aside0.mk (Below.refl w5.heap.size w5); clear hy hk1 hk5 hk6 hb) | ((with_reducible refine gate_dst (N := 9) rfl ?_); refine box_event ?hg (N := 9) ?hd (cs := #[.int .i64 0, .slice none 0 0, .int .u32 0, .int .i64 0, .int .i64 0, .slice none 0 0, .slice none 0 0]) (t := 34) ?hr ?_; (case hd => rfl); (case hg => rfl); (case hr => first | (go_simp; done) | (go_simp; rfl)); intro ga hg w6 hbox hb; have BKC6 := Aside0.mk ((hb.block _ (blk_lt BKC5.out)).trans BKC5.out); have BKT6 := Aside0.mk ((hb.block _ (blk_lt BKT5.out)).trans BKT5.out); have BKR6 := Aside0.mk ((hb.block _ (blk_lt BKR5.out)).trans BKR5.out); have HB6 := Aside0.mk (below_step HB5.out hb); have HW6 := Aside0.mk (below_step HW5.out hb); have BKA6 := Aside0.mk hbox; have GA3 := Aside0.mk (show w5.heap.size ≤ ga from by rw [hg]; exact Nat.le_refl _); have GEA := Aside0.mk (show gr < ga from by rw [hg]; exact blk_lt BKR5.out); clear hbox hb hg) | ((with_reducible refine gate_store (t := 34) (p := 9) rfl ?_); refine store_new rfl 34 (.tmp 9) (.tmp 30) rfl [.int .i64 0, .slice X1 0 y1, .int .u32 0, .int .i64 0, .int .i64 0, .slice X5 0 y5, .slice X6 0 y6] (by rfl) (by rfl) BKA6.out (by rfl) (by kernel_rfl) (by intro v hv; simp only [List.mem_cons, List.not_mem_nil, or_false] at hv; rcases hv with rfl | rfl | rfl | rfl | rfl | rfl | rfl <;> rfl) ?_; intro w7 hx hg hs; have BKA7 := Aside0.mk hx; have HB7 := Aside0.mk (HB6.out.grown hg HB6.out.size (fun k e => by injection e with e; have := GEC.out; have := GET.out; have := GER.out; have := GEA.out; omega)); have HW7 := Aside0.mk (HW6.out.grown hg HW6.out.size (fun k e => by injection e with e; have := GA3.out; omega)); have BKC7 := Aside0.mk ((hg.block _ (blk_lt BKC6.out) (fun e => by injection e with e; have := GEA.out; have := GER.out; have := GET.out; omega)).trans BKC6.out); have BKT7 := Aside0.mk ((hg.block _ (blk_lt BKT6.out) (fun e => by injection e with e; have := GEA.out; have := GER.out; have := GET.out; omega)).trans BKT6.out); have BKR7 := Aside0.mk ((hg.block _ (blk_lt BKR6.out) (fun e => by injection e with e; have := GEA.out; have := GER.out; have := GET.out; omega)).trans BKR6.out); clear hx hg hs))
  go_wp2_with (first | (go_at_call 9; with_reducible refine (answers_ _).mono ?_; rintro e w8 ⟨rfl, hb⟩; have BKA8 := Aside0.mk ((hb.block _ (blk_lt BKA7.out)).trans BKA7.out); have HB8 := Aside0.mk (below_step HB7.out hb); have HW8 := Aside0.mk (below_step HW7.out hb); clear hb) | ((with_reducible refine gate_dst (N := 36) rfl ?_); (try (refine gate_guard (by rfl) ?_; dsimp only)); refine load_blk rfl 34 (.tmp 9) rfl (g := ga) (off := 0) [.int .i64 0, .slice X1 0 y1, .int .u32 0, .int .i64 0, .int .i64 0, .slice X5 0 y5, .slice X6 0 y6] _ rfl BKA8.out (self_x _) Try.underlying34 rfl (by kernel_rfl) ?_) | (go_at_call 12; refine (same_zero X1 X5 X6 y1 y5 y6 _ (Kd.C_below HK1.out HW8.out)).mono ?_; rintro e w9 ⟨rfl, hb⟩; have HB9 := Aside0.mk (below_step HB8.out hb); clear hb))
  go_ret
  exact ⟨rfl, HB9.out⟩
set_option maxHeartbeats 4000000 in
set_option maxRecDepth 100000 in
open Go.Proofs.Ytjdebhkdbdbepaa.Mid in
theorem loops_int (k : Nat) (cA cI cN cH cG cL cS cD tN tA : Int) (AI : Option Addr) (nI cIn : Nat) (AO : Option Addr) (cOut : Nat) (lo : List S87) (pa pl pe o : Int) (A1 : Option Addr) (c1 : Nat) (l1 : List S69) (nx md pr : Int) (A5 : Option Addr) (c5 : Nat) (l5 : List Int) (A6 : Option Addr) (c6 : Nat) (l6 : List S73) (st fr : Int) (rp : Int) (al gd : Bool) (pv fi : Int) (fb : Bool) (w : World) (hro : Kd.C k87 w AO lo.length lo) (hco : lo.length ≤ cOut) (hr1 : Kd.C k69 w A1 l1.length l1) (hc1 : l1.length ≤ c1) (hr5 : Kd.C (Kd.int .u32) w A5 l5.length l5) (hc5 : l5.length ≤ c5) (hr6 : Kd.C k73 w A6 l6.length l6) (hc6 : l6.length ≤ c6) (hs : interregnumlaw16_small.f k o l1 nx md pr l5 l6 = some true) (hl : decide (100 < (lo.length : Int)) = false) (hp : policy_Apply.f lo pa pl = some (rp, al)) (hgo : stopB cA tN tA al true pe st fr = false → (l1.length < 4000 ∧ (∀ y ∈ l1, slices_Clone_int_int.f y.f1 = some y.f1) ∧ (∀ y ∈ l1, y.f1.length < 4000) ∧ slices_Clone_uint32_uint32.f l5 = some l5 ∧ l6.length < 4000 ∧ (∀ r ∈ l6, bytes_Clone.f r.f2 = some r.f2)) ∧ attr_Good.f k (outA cA cN tA o l1 nx md pr l5 l6).1 (outA cA cN tA o l1 nx md pr l5 l6).2.1 (outA cA cN tA o l1 nx md pr l5 l6).2.2.1 (outA cA cN tA o l1 nx md pr l5 l6).2.2.2.1 (outA cA cN tA o l1 nx md pr l5 l6).2.2.2.2.1 (outA cA cN tA o l1 nx md pr l5 l6).2.2.2.2.2.1 (outA cA cN tA o l1 nx md pr l5 l6).2.2.2.2.2.2 = some gd) (hz : expV (stopB cA tN tA al true pe st fr) gd (outA cA cN tA o l1 nx md pr l5 l6) = (o, l1, nx, md, pv, l5, l6, true)) (heq : tA = cA) (hpe : pe ≠ tN) (hpv : 0 ≤ pv) (hf : interregnumref05_First.f k l1 = some (fi, fb)) (hsp : interregnumref05_SamePath.f k l1 l1 = some true) :
    Calls Try.prog 4 #[.agg #[.int .i64 cA, .int .u32 cI, .int .u32 cN, .int .i64 cH, .int .i64 cG, .int .i64 cL, .int .i64 cS, .int .i64 cD], .agg #[.int .i64 tN, .int .i64 tA, .slice AI nI cIn, .slice AO lo.length cOut], .agg #[.int .u32 pa, .int .i64 pl, .int .i64 pe, .int .i64 o, .slice A1 l1.length c1, .int .u32 nx, .int .i64 md, .int .i64 pr, .slice A5 l5.length c5, .slice A6 l6.length c6, .int .i64 st], .int .i64 fr] w fun e w' => e = .returned (.bool true) ∧ Below w.heap.size w w' := by
  have HS := Aside0.mk hs
  have HP := Aside0.mk hp
  have HGO := Aside0.mk hgo
  have HZ := Aside0.mk hz
  clear hs hp hgo hz
  have HEQ := Aside0.mk heq
  have HPE := Aside0.mk hpe
  have HPV := Aside0.mk hpv
  have HF := Aside0.mk hf
  have HSP := Aside0.mk hsp
  clear heq hpe hpv hf hsp
  have HRO := Aside0.mk hro
  have HCO := Aside0.mk hco
  have HR1 := Aside0.mk hr1
  have HC1 := Aside0.mk hc1
  have HR5 := Aside0.mk hr5
  have HC5 := Aside0.mk hc5
  have HR6 := Aside0.mk hr6
  have HC6 := Aside0.mk hc6
  have hu24 := Try.underlying24
  have hu27 := Try.underlying27
  have hu36 := Try.underlying36
  have hu34 := Try.underlying34
  have HB := Aside0.mk (Below.refl w.heap.size w)
  clear hro hco hr1 hc1 hr5 hc5 hr6 hc6
  have e1 := hl
  clear hl
  go_enter Try.func4, Try.ntmps4
  go_upto_region 1 with (first | ((with_reducible refine gate_dst (N := 4) rfl ?_); refine box_event ?hg (N := 4) ?hd (cs := #[.int .i64 cA, .int .u32 cI, .int .u32 cN, .int .i64 cH, .int .i64 cG, .int .i64 cL, .int .i64 cS, .int .i64 cD]) (t := 24) ?hr ?_; (case hd => rfl); (case hg => rfl); (case hr => first | (go_simp; done) | (go_simp; rfl)); intro gc hg w1 hbox hb; have HB1 := Aside0.mk (below_step HB.out hb); have BKC1 := Aside0.mk hbox; have GEC := Aside0.mk (show w.heap.size ≤ gc from by rw [hg]; exact Nat.le_refl _); clear hbox hb hg) | ((with_reducible refine gate_dst (N := 5) rfl ?_); refine box_event ?hg (N := 5) ?hd (cs := #[.int .i64 tN, .int .i64 tA, .slice AI nI cIn, .slice AO lo.length cOut]) (t := 27) ?hr ?_; (case hd => rfl); (case hg => rfl); (case hr => first | (go_simp; done) | (go_simp; rfl)); intro gt hg w2 hbox hb; have BKC2 := Aside0.mk ((hb.block _ (blk_lt BKC1.out)).trans BKC1.out); have HB2 := Aside0.mk (below_step HB1.out hb); have BKT2 := Aside0.mk hbox; have GET := Aside0.mk (show gc < gt from by rw [hg]; exact blk_lt BKC1.out); clear hbox hb hg) | ((with_reducible refine gate_dst (N := 6) rfl ?_); refine box_event ?hg (N := 6) ?hd (cs := #[.int .u32 pa, .int .i64 pl, .int .i64 pe, .int .i64 o, .slice A1 l1.length c1, .int .u32 nx, .int .i64 md, .int .i64 pr, .slice A5 l5.length c5, .slice A6 l6.length c6, .int .i64 st]) (t := 36) ?hr ?_; (case hd => rfl); (case hg => rfl); (case hr => first | (go_simp; done) | (go_simp; rfl)); intro gr hg w3 hbox hb; have BKC3 := Aside0.mk ((hb.block _ (blk_lt BKC2.out)).trans BKC2.out); have BKT3 := Aside0.mk ((hb.block _ (blk_lt BKT2.out)).trans BKT2.out); have HB3 := Aside0.mk (below_step HB2.out hb); have BKR3 := Aside0.mk hbox; have GER := Aside0.mk (show gt < gr from by rw [hg]; exact blk_lt BKT2.out); clear hbox hb hg))
  go_upto_region 3 with (first | ((with_reducible refine gate_dst (N := 14) rfl ?_); (try (refine gate_guard (by rfl) ?_; dsimp only)); refine load_blk rfl 34 (.tmp 13) rfl (g := gr) (off := 3) [.int .i64 o, .slice A1 l1.length c1, .int .u32 nx, .int .i64 md, .int .i64 pr, .slice A5 l5.length c5, .slice A6 l6.length c6] _ rfl BKR3.out (seven_x pa pl pe o A1 l1.length c1 nx md pr A5 l5.length c5 A6 l6.length c6 st) Try.underlying34 rfl (by kernel_rfl) ?_) | (go_at_call 8; refine (interregnumlaw16_small.calls k o A1 c1 l1 nx md pr A5 c5 l5 A6 c6 l6 true _ (Kd.C_below HR1.out HB3.out) HC1.out (Kd.C_below HR5.out HB3.out) HC5.out (Kd.C_below HR6.out HB3.out) HC6.out HS.out).mono ?_; rintro e w4 ⟨rfl, hb⟩; have BKC4 := Aside0.mk ((hb.block _ (blk_lt BKC3.out)).trans BKC3.out); have BKT4 := Aside0.mk ((hb.block _ (blk_lt BKT3.out)).trans BKT3.out); have BKR4 := Aside0.mk ((hb.block _ (blk_lt BKR3.out)).trans BKR3.out); have HB4 := Aside0.mk (below_step HB3.out hb); have hT3 : w4.cell? ⟨gt, 3, none⟩ = some (.slice AO lo.length cOut) := (blk_cell BKT4.out 3).trans rfl; clear hb))
  clear hT3 e1
  go_upto_region 4 with (first | ((with_reducible refine gate_dst (N := 25) rfl ?_); (try (refine gate_guard (by rfl) ?_; dsimp only)); refine load_blk rfl 24 (.tmp 4) rfl (g := gc) (off := 0) [.int .i64 cA, .int .u32 cI, .int .u32 cN, .int .i64 cH, .int .i64 cG, .int .i64 cL, .int .i64 cS, .int .i64 cD] _ rfl BKC4.out (self_x _) Try.underlying24 rfl (by kernel_rfl) ?_) | ((with_reducible refine gate_dst (N := 26) rfl ?_); (try (refine gate_guard (by rfl) ?_; dsimp only)); refine load_blk rfl 27 (.tmp 5) rfl (g := gt) (off := 0) [.int .i64 tN, .int .i64 tA, .slice AI nI cIn, .slice AO lo.length cOut] _ rfl BKT4.out (self_x _) Try.underlying27 rfl (by kernel_rfl) ?_) | ((with_reducible refine gate_dst (N := 27) rfl ?_); (try (refine gate_guard (by rfl) ?_; dsimp only)); refine load_blk rfl 36 (.tmp 6) rfl (g := gr) (off := 0) [.int .u32 pa, .int .i64 pl, .int .i64 pe, .int .i64 o, .slice A1 l1.length c1, .int .u32 nx, .int .i64 md, .int .i64 pr, .slice A5 l5.length c5, .slice A6 l6.length c6, .int .i64 st] _ rfl BKR4.out (self_x _) Try.underlying36 rfl (by kernel_rfl) ?_) | (go_at_call 10; refine (export_all k cA cI cN cH cG cL cS cD tN tA AI nI cIn AO cOut lo true pa pl pe o A1 c1 l1 nx md pr A5 c5 l5 A6 c6 l6 st fr rp al gd _ (Kd.C_below HRO.out HB4.out) HCO.out (Kd.C_below HR1.out HB4.out) HC1.out (Kd.C_below HR5.out HB4.out) HC5.out (Kd.C_below HR6.out HB4.out) HC6.out HP.out HGO.out).mono ?_; rintro e w5 ⟨x0, X1, y1, p1, x2, x3, x4, X5, y5, p5, X6, y6, p6, xb, rfl, hy, hk1, hk5, hk6, hb, hv⟩; rw [HZ.out] at hv; simp only [Prod.mk.injEq] at hv; obtain ⟨rfl, rfl, rfl, rfl, rfl, rfl, rfl, rfl⟩ := hv; have HY := Aside0.mk hy; have HK1 := Aside0.mk hk1; have HK5 := Aside0.mk hk5; have HK6 := Aside0.mk hk6; have BKC5 := Aside0.mk ((hb.block _ (blk_lt BKC4.out)).trans BKC4.out); have BKT5 := Aside0.mk ((hb.block _ (blk_lt BKT4.out)).trans BKT4.out); have BKR5 := Aside0.mk ((hb.block _ (blk_lt BKR4.out)).trans BKR4.out); have HB5 := Aside0.mk (below_step HB4.out hb); have HW5 := Aside0.mk (Below.refl w5.heap.size w5); clear hy hk1 hk5 hk6 hb) | ((with_reducible refine gate_dst (N := 9) rfl ?_); refine box_event ?hg (N := 9) ?hd (cs := #[.int .i64 0, .slice none 0 0, .int .u32 0, .int .i64 0, .int .i64 0, .slice none 0 0, .slice none 0 0]) (t := 34) ?hr ?_; (case hd => rfl); (case hg => rfl); (case hr => first | (go_simp; done) | (go_simp; rfl)); intro ga hg w6 hbox hb; have BKC6 := Aside0.mk ((hb.block _ (blk_lt BKC5.out)).trans BKC5.out); have BKT6 := Aside0.mk ((hb.block _ (blk_lt BKT5.out)).trans BKT5.out); have BKR6 := Aside0.mk ((hb.block _ (blk_lt BKR5.out)).trans BKR5.out); have HB6 := Aside0.mk (below_step HB5.out hb); have HW6 := Aside0.mk (below_step HW5.out hb); have BKA6 := Aside0.mk hbox; have GA3 := Aside0.mk (show w5.heap.size ≤ ga from by rw [hg]; exact Nat.le_refl _); have GEA := Aside0.mk (show gr < ga from by rw [hg]; exact blk_lt BKR5.out); clear hbox hb hg) | ((with_reducible refine gate_store (t := 34) (p := 9) rfl ?_); refine store_new rfl 34 (.tmp 9) (.tmp 30) rfl [.int .i64 o, .slice X1 l1.length y1, .int .u32 nx, .int .i64 md, .int .i64 pv, .slice X5 l5.length y5, .slice X6 l6.length y6] (by rfl) (by rfl) BKA6.out (by rfl) (by kernel_rfl) (by intro v hv; simp only [List.mem_cons, List.not_mem_nil, or_false] at hv; rcases hv with rfl | rfl | rfl | rfl | rfl | rfl | rfl <;> rfl) ?_; intro w7 hx hg hs; have BKA7 := Aside0.mk hx; have HB7 := Aside0.mk (HB6.out.grown hg HB6.out.size (fun k e => by injection e with e; have := GEC.out; have := GET.out; have := GER.out; have := GEA.out; omega)); have HW7 := Aside0.mk (HW6.out.grown hg HW6.out.size (fun k e => by injection e with e; have := GA3.out; omega)); have BKC7 := Aside0.mk ((hg.block _ (blk_lt BKC6.out) (fun e => by injection e with e; have := GEA.out; have := GER.out; have := GET.out; omega)).trans BKC6.out); have BKT7 := Aside0.mk ((hg.block _ (blk_lt BKT6.out) (fun e => by injection e with e; have := GEA.out; have := GER.out; have := GET.out; omega)).trans BKT6.out); have BKR7 := Aside0.mk ((hg.block _ (blk_lt BKR6.out) (fun e => by injection e with e; have := GEA.out; have := GER.out; have := GET.out; omega)).trans BKR6.out); clear hx hg hs))
  have hR2 : w7.cell? ⟨gr, 2, none⟩ = some (.int .i64 pe) := (blk_cell BKR7.out 2).trans rfl
  have hT0 : w7.cell? ⟨gt, 0, none⟩ = some (.int .i64 tN) := (blk_cell BKT7.out 0).trans rfl
  have e2 : (pe == tN) = false := beq_eq_false_iff_ne.mpr HPE.out
  have e2n : (pe != tN) = true := by simp [HPE.out]
  go_upto_region 8 with (fail)
  clear hR2 hT0 e2 e2n
  have ha1 : w7.cell? ⟨ga, 1, none⟩ = some (.slice X1 l1.length y1) := (blk_cell BKA7.out 1).trans rfl
  go_upto_region 9 with (go_at_call 13; refine (interregnumref05_First.calls k X1 y1 l1 fi fb _ (Kd.C_below HK1.out HW7.out) HY.out.1 HF.out).mono ?_; rintro e wh ⟨rfl, ⟨nd, rfl⟩⟩; have BKC8 := Aside0.mk (blk_drewN BKC7.out nd); have BKT8 := Aside0.mk (blk_drewN BKT7.out nd); have BKR8 := Aside0.mk (blk_drewN BKR7.out nd); have BKA8 := Aside0.mk (blk_drewN BKA7.out nd); have HB8 := Aside0.mk (pw_below_drewN HB7.out nd); have HW8 := Aside0.mk (pw_below_drewN HW7.out nd); generalize w7.drewN nd = w8 at BKC8 BKT8 BKR8 BKA8 HB8 HW8 ⊢)
  clear ha1
  have hT1 : w8.cell? ⟨gt, 1, none⟩ = some (.int .i64 tA) := (blk_cell BKT8.out 1).trans rfl
  have hC0 : w8.cell? ⟨gc, 0, none⟩ = some (.int .i64 cA) := (blk_cell BKC8.out 0).trans rfl
  have e3 : (tA == cA) = true := by simp [HEQ.out]
  have e3n : (tA != cA) = false := by simp [HEQ.out]
  go_upto_region 11 with (fail)
  clear hT1 hC0 e3 e3n
  have e4 : decide (0 ≤ pv) = true := decide_eq_true HPV.out
  go_wp2_with (first | (go_at_call 9; with_reducible refine (answers_ _).mono ?_; rintro e w9 ⟨rfl, hb⟩; have BKA9 := Aside0.mk ((hb.block _ (blk_lt BKA8.out)).trans BKA8.out); have BKR9 := Aside0.mk ((hb.block _ (blk_lt BKR8.out)).trans BKR8.out); have BKC9 := Aside0.mk ((hb.block _ (blk_lt BKC8.out)).trans BKC8.out); have HB9 := Aside0.mk (below_step HB8.out hb); have HW9 := Aside0.mk (below_step HW8.out hb); clear hb; have ha1 : w9.cell? ⟨ga, 1, none⟩ = some (.slice X1 l1.length y1) := (blk_cell BKA9.out 1).trans rfl; have ha2 : w9.cell? ⟨ga, 2, none⟩ = some (.int .u32 nx) := (blk_cell BKA9.out 2).trans rfl; have ha4 : w9.cell? ⟨ga, 4, none⟩ = some (.int .i64 pv) := (blk_cell BKA9.out 4).trans rfl; have hr4 : w9.cell? ⟨gr, 4, none⟩ = some (.slice A1 l1.length c1) := (blk_cell BKR9.out 4).trans rfl; have hr5 : w9.cell? ⟨gr, 5, none⟩ = some (.int .u32 nx) := (blk_cell BKR9.out 5).trans rfl) | (go_at_call 15; refine (interregnumref05_SamePath.calls k X1 y1 l1 A1 c1 l1 true _ (Kd.C_below HK1.out HW9.out) HY.out.1 (Kd.C_below HR1.out HB9.out) HC1.out HSP.out).mono ?_; rintro e wh ⟨rfl, ⟨nd, rfl⟩⟩))
  go_ret
  exact ⟨rfl, pw_below_drewN HB9.out _⟩
set_option maxHeartbeats 4000000 in
set_option maxRecDepth 100000 in
open Go.Proofs.Ytjdebhkdbdbepaa.Mid in
theorem loops_ext (k : Nat) (cA cI cN cH cG cL cS cD tN tA : Int) (AI : Option Addr) (nI cIn : Nat) (AO : Option Addr) (cOut : Nat) (lo : List S87) (pa pl pe o : Int) (A1 : Option Addr) (c1 : Nat) (l1 : List S69) (nx md pr : Int) (A5 : Option Addr) (c5 : Nat) (l5 : List Int) (A6 : Option Addr) (c6 : Nat) (l6 : List S73) (st fr : Int) (rp : Int) (al gd : Bool) (fi L1 L2 : Int) (fb : Bool) (w : World) (hro : Kd.C k87 w AO lo.length lo) (hco : lo.length ≤ cOut) (hr1 : Kd.C k69 w A1 l1.length l1) (hc1 : l1.length ≤ c1) (hr5 : Kd.C (Kd.int .u32) w A5 l5.length l5) (hc5 : l5.length ≤ c5) (hr6 : Kd.C k73 w A6 l6.length l6) (hc6 : l6.length ≤ c6) (hs : interregnumlaw16_small.f k o l1 nx md pr l5 l6 = some true) (hl : decide (100 < (lo.length : Int)) = false) (hp : policy_Apply.f lo pa pl = some (rp, al)) (hgo : stopB cA tN tA al true pe st fr = false → (l1.length < 4000 ∧ (∀ y ∈ l1, slices_Clone_int_int.f y.f1 = some y.f1) ∧ (∀ y ∈ l1, y.f1.length < 4000) ∧ slices_Clone_uint32_uint32.f l5 = some l5 ∧ l6.length < 4000 ∧ (∀ r ∈ l6, bytes_Clone.f r.f2 = some r.f2)) ∧ attr_Good.f k (outA cA cN tA o l1 nx md pr l5 l6).1 (outA cA cN tA o l1 nx md pr l5 l6).2.1 (outA cA cN tA o l1 nx md pr l5 l6).2.2.1 (outA cA cN tA o l1 nx md pr l5 l6).2.2.2.1 (outA cA cN tA o l1 nx md pr l5 l6).2.2.2.2.1 (outA cA cN tA o l1 nx md pr l5 l6).2.2.2.2.2.1 (outA cA cN tA o l1 nx md pr l5 l6).2.2.2.2.2.2 = some gd) (hz : expV (stopB cA tN tA al true pe st fr) gd (outA cA cN tA o l1 nx md pr l5 l6) = (o, prependV l1 cA, cN, -1, -1, l5, l6, true)) (heq : tA ≠ cA) (hpe : pe ≠ tN) (hfi : fi = cA) (hf : interregnumref05_First.f k (prependV l1 cA) = some (fi, fb)) (hl1 : interregnumref05_Length.f k (prependV l1 cA) = some L1) (hl2 : interregnumref05_Length.f k l1 = some L2) (hll : L1 = wrap64 (L2 + 1)) :
    Calls Try.prog 4 #[.agg #[.int .i64 cA, .int .u32 cI, .int .u32 cN, .int .i64 cH, .int .i64 cG, .int .i64 cL, .int .i64 cS, .int .i64 cD], .agg #[.int .i64 tN, .int .i64 tA, .slice AI nI cIn, .slice AO lo.length cOut], .agg #[.int .u32 pa, .int .i64 pl, .int .i64 pe, .int .i64 o, .slice A1 l1.length c1, .int .u32 nx, .int .i64 md, .int .i64 pr, .slice A5 l5.length c5, .slice A6 l6.length c6, .int .i64 st], .int .i64 fr] w fun e w' => e = .returned (.bool true) ∧ Below w.heap.size w w' := by
  have HS := Aside0.mk hs
  have HP := Aside0.mk hp
  have HGO := Aside0.mk hgo
  have HZ := Aside0.mk hz
  clear hs hp hgo hz
  have HEQ := Aside0.mk heq
  have HPE := Aside0.mk hpe
  have HFI := Aside0.mk hfi
  have HF := Aside0.mk hf
  have HL1 := Aside0.mk hl1
  have HL2 := Aside0.mk hl2
  have HLL := Aside0.mk hll
  clear heq hpe hfi hf hl1 hl2 hll
  have HRO := Aside0.mk hro
  have HCO := Aside0.mk hco
  have HR1 := Aside0.mk hr1
  have HC1 := Aside0.mk hc1
  have HR5 := Aside0.mk hr5
  have HC5 := Aside0.mk hc5
  have HR6 := Aside0.mk hr6
  have HC6 := Aside0.mk hc6
  have hu24 := Try.underlying24
  have hu27 := Try.underlying27
  have hu36 := Try.underlying36
  have hu34 := Try.underlying34
  have HB := Aside0.mk (Below.refl w.heap.size w)
  clear hro hco hr1 hc1 hr5 hc5 hr6 hc6
  have e1 := hl
  clear hl
  go_enter Try.func4, Try.ntmps4
  go_upto_region 1 with (first | ((with_reducible refine gate_dst (N := 4) rfl ?_); refine box_event ?hg (N := 4) ?hd (cs := #[.int .i64 cA, .int .u32 cI, .int .u32 cN, .int .i64 cH, .int .i64 cG, .int .i64 cL, .int .i64 cS, .int .i64 cD]) (t := 24) ?hr ?_; (case hd => rfl); (case hg => rfl); (case hr => first | (go_simp; done) | (go_simp; rfl)); intro gc hg w1 hbox hb; have HB1 := Aside0.mk (below_step HB.out hb); have BKC1 := Aside0.mk hbox; have GEC := Aside0.mk (show w.heap.size ≤ gc from by rw [hg]; exact Nat.le_refl _); clear hbox hb hg) | ((with_reducible refine gate_dst (N := 5) rfl ?_); refine box_event ?hg (N := 5) ?hd (cs := #[.int .i64 tN, .int .i64 tA, .slice AI nI cIn, .slice AO lo.length cOut]) (t := 27) ?hr ?_; (case hd => rfl); (case hg => rfl); (case hr => first | (go_simp; done) | (go_simp; rfl)); intro gt hg w2 hbox hb; have BKC2 := Aside0.mk ((hb.block _ (blk_lt BKC1.out)).trans BKC1.out); have HB2 := Aside0.mk (below_step HB1.out hb); have BKT2 := Aside0.mk hbox; have GET := Aside0.mk (show gc < gt from by rw [hg]; exact blk_lt BKC1.out); clear hbox hb hg) | ((with_reducible refine gate_dst (N := 6) rfl ?_); refine box_event ?hg (N := 6) ?hd (cs := #[.int .u32 pa, .int .i64 pl, .int .i64 pe, .int .i64 o, .slice A1 l1.length c1, .int .u32 nx, .int .i64 md, .int .i64 pr, .slice A5 l5.length c5, .slice A6 l6.length c6, .int .i64 st]) (t := 36) ?hr ?_; (case hd => rfl); (case hg => rfl); (case hr => first | (go_simp; done) | (go_simp; rfl)); intro gr hg w3 hbox hb; have BKC3 := Aside0.mk ((hb.block _ (blk_lt BKC2.out)).trans BKC2.out); have BKT3 := Aside0.mk ((hb.block _ (blk_lt BKT2.out)).trans BKT2.out); have HB3 := Aside0.mk (below_step HB2.out hb); have BKR3 := Aside0.mk hbox; have GER := Aside0.mk (show gt < gr from by rw [hg]; exact blk_lt BKT2.out); clear hbox hb hg))
  go_upto_region 3 with (first | ((with_reducible refine gate_dst (N := 14) rfl ?_); (try (refine gate_guard (by rfl) ?_; dsimp only)); refine load_blk rfl 34 (.tmp 13) rfl (g := gr) (off := 3) [.int .i64 o, .slice A1 l1.length c1, .int .u32 nx, .int .i64 md, .int .i64 pr, .slice A5 l5.length c5, .slice A6 l6.length c6] _ rfl BKR3.out (seven_x pa pl pe o A1 l1.length c1 nx md pr A5 l5.length c5 A6 l6.length c6 st) Try.underlying34 rfl (by kernel_rfl) ?_) | (go_at_call 8; refine (interregnumlaw16_small.calls k o A1 c1 l1 nx md pr A5 c5 l5 A6 c6 l6 true _ (Kd.C_below HR1.out HB3.out) HC1.out (Kd.C_below HR5.out HB3.out) HC5.out (Kd.C_below HR6.out HB3.out) HC6.out HS.out).mono ?_; rintro e w4 ⟨rfl, hb⟩; have BKC4 := Aside0.mk ((hb.block _ (blk_lt BKC3.out)).trans BKC3.out); have BKT4 := Aside0.mk ((hb.block _ (blk_lt BKT3.out)).trans BKT3.out); have BKR4 := Aside0.mk ((hb.block _ (blk_lt BKR3.out)).trans BKR3.out); have HB4 := Aside0.mk (below_step HB3.out hb); have hT3 : w4.cell? ⟨gt, 3, none⟩ = some (.slice AO lo.length cOut) := (blk_cell BKT4.out 3).trans rfl; clear hb))
  clear hT3 e1
  go_upto_region 4 with (first | ((with_reducible refine gate_dst (N := 25) rfl ?_); (try (refine gate_guard (by rfl) ?_; dsimp only)); refine load_blk rfl 24 (.tmp 4) rfl (g := gc) (off := 0) [.int .i64 cA, .int .u32 cI, .int .u32 cN, .int .i64 cH, .int .i64 cG, .int .i64 cL, .int .i64 cS, .int .i64 cD] _ rfl BKC4.out (self_x _) Try.underlying24 rfl (by kernel_rfl) ?_) | ((with_reducible refine gate_dst (N := 26) rfl ?_); (try (refine gate_guard (by rfl) ?_; dsimp only)); refine load_blk rfl 27 (.tmp 5) rfl (g := gt) (off := 0) [.int .i64 tN, .int .i64 tA, .slice AI nI cIn, .slice AO lo.length cOut] _ rfl BKT4.out (self_x _) Try.underlying27 rfl (by kernel_rfl) ?_) | ((with_reducible refine gate_dst (N := 27) rfl ?_); (try (refine gate_guard (by rfl) ?_; dsimp only)); refine load_blk rfl 36 (.tmp 6) rfl (g := gr) (off := 0) [.int .u32 pa, .int .i64 pl, .int .i64 pe, .int .i64 o, .slice A1 l1.length c1, .int .u32 nx, .int .i64 md, .int .i64 pr, .slice A5 l5.length c5, .slice A6 l6.length c6, .int .i64 st] _ rfl BKR4.out (self_x _) Try.underlying36 rfl (by kernel_rfl) ?_) | (go_at_call 10; refine (export_all k cA cI cN cH cG cL cS cD tN tA AI nI cIn AO cOut lo true pa pl pe o A1 c1 l1 nx md pr A5 c5 l5 A6 c6 l6 st fr rp al gd _ (Kd.C_below HRO.out HB4.out) HCO.out (Kd.C_below HR1.out HB4.out) HC1.out (Kd.C_below HR5.out HB4.out) HC5.out (Kd.C_below HR6.out HB4.out) HC6.out HP.out HGO.out).mono ?_; rintro e w5 ⟨x0, X1, y1, p1, x2, x3, x4, X5, y5, p5, X6, y6, p6, xb, rfl, hy, hk1, hk5, hk6, hb, hv⟩; rw [HZ.out] at hv; simp only [Prod.mk.injEq] at hv; obtain ⟨rfl, rfl, rfl, rfl, rfl, rfl, rfl, rfl⟩ := hv; have HY := Aside0.mk hy; have HK1 := Aside0.mk hk1; have HK5 := Aside0.mk hk5; have HK6 := Aside0.mk hk6; have BKC5 := Aside0.mk ((hb.block _ (blk_lt BKC4.out)).trans BKC4.out); have BKT5 := Aside0.mk ((hb.block _ (blk_lt BKT4.out)).trans BKT4.out); have BKR5 := Aside0.mk ((hb.block _ (blk_lt BKR4.out)).trans BKR4.out); have HB5 := Aside0.mk (below_step HB4.out hb); have HW5 := Aside0.mk (Below.refl w5.heap.size w5); clear hy hk1 hk5 hk6 hb) | ((with_reducible refine gate_dst (N := 9) rfl ?_); refine box_event ?hg (N := 9) ?hd (cs := #[.int .i64 0, .slice none 0 0, .int .u32 0, .int .i64 0, .int .i64 0, .slice none 0 0, .slice none 0 0]) (t := 34) ?hr ?_; (case hd => rfl); (case hg => rfl); (case hr => first | (go_simp; done) | (go_simp; rfl)); intro ga hg w6 hbox hb; have BKC6 := Aside0.mk ((hb.block _ (blk_lt BKC5.out)).trans BKC5.out); have BKT6 := Aside0.mk ((hb.block _ (blk_lt BKT5.out)).trans BKT5.out); have BKR6 := Aside0.mk ((hb.block _ (blk_lt BKR5.out)).trans BKR5.out); have HB6 := Aside0.mk (below_step HB5.out hb); have HW6 := Aside0.mk (below_step HW5.out hb); have BKA6 := Aside0.mk hbox; have GA3 := Aside0.mk (show w5.heap.size ≤ ga from by rw [hg]; exact Nat.le_refl _); have GEA := Aside0.mk (show gr < ga from by rw [hg]; exact blk_lt BKR5.out); clear hbox hb hg) | ((with_reducible refine gate_store (t := 34) (p := 9) rfl ?_); refine store_new rfl 34 (.tmp 9) (.tmp 30) rfl [.int .i64 o, .slice X1 (prependV l1 cA).length y1, .int .u32 cN, .int .i64 (-1), .int .i64 (-1), .slice X5 l5.length y5, .slice X6 l6.length y6] (by rfl) (by rfl) BKA6.out (by rfl) (by kernel_rfl) (by intro v hv; simp only [List.mem_cons, List.not_mem_nil, or_false] at hv; rcases hv with rfl | rfl | rfl | rfl | rfl | rfl | rfl <;> rfl) ?_; intro w7 hx hg hs; have BKA7 := Aside0.mk hx; have HB7 := Aside0.mk (HB6.out.grown hg HB6.out.size (fun k e => by injection e with e; have := GEC.out; have := GET.out; have := GER.out; have := GEA.out; omega)); have HW7 := Aside0.mk (HW6.out.grown hg HW6.out.size (fun k e => by injection e with e; have := GA3.out; omega)); have BKC7 := Aside0.mk ((hg.block _ (blk_lt BKC6.out) (fun e => by injection e with e; have := GEA.out; have := GER.out; have := GET.out; omega)).trans BKC6.out); have BKT7 := Aside0.mk ((hg.block _ (blk_lt BKT6.out) (fun e => by injection e with e; have := GEA.out; have := GER.out; have := GET.out; omega)).trans BKT6.out); have BKR7 := Aside0.mk ((hg.block _ (blk_lt BKR6.out) (fun e => by injection e with e; have := GEA.out; have := GER.out; have := GET.out; omega)).trans BKR6.out); clear hx hg hs))
  have hR2 : w7.cell? ⟨gr, 2, none⟩ = some (.int .i64 pe) := (blk_cell BKR7.out 2).trans rfl
  have hT0 : w7.cell? ⟨gt, 0, none⟩ = some (.int .i64 tN) := (blk_cell BKT7.out 0).trans rfl
  have e2 : (pe == tN) = false := beq_eq_false_iff_ne.mpr HPE.out
  have e2n : (pe != tN) = true := by simp [HPE.out]
  go_upto_region 8 with (fail)
  clear hR2 hT0 e2 e2n
  have ha1 : w7.cell? ⟨ga, 1, none⟩ = some (.slice X1 (prependV l1 cA).length y1) := (blk_cell BKA7.out 1).trans rfl
  go_upto_region 9 with (go_at_call 13; refine (interregnumref05_First.calls k X1 y1 (prependV l1 cA) fi fb _ (Kd.C_below HK1.out HW7.out) HY.out.1 HF.out).mono ?_; rintro e wh ⟨rfl, ⟨nd, rfl⟩⟩; have BKC8 := Aside0.mk (blk_drewN BKC7.out nd); have BKT8 := Aside0.mk (blk_drewN BKT7.out nd); have BKR8 := Aside0.mk (blk_drewN BKR7.out nd); have BKA8 := Aside0.mk (blk_drewN BKA7.out nd); have HB8 := Aside0.mk (pw_below_drewN HB7.out nd); have HW8 := Aside0.mk (pw_below_drewN HW7.out nd); generalize w7.drewN nd = w8 at BKC8 BKT8 BKR8 BKA8 HB8 HW8 ⊢)
  clear ha1
  have hT1 : w8.cell? ⟨gt, 1, none⟩ = some (.int .i64 tA) := (blk_cell BKT8.out 1).trans rfl
  have hC0 : w8.cell? ⟨gc, 0, none⟩ = some (.int .i64 cA) := (blk_cell BKC8.out 0).trans rfl
  have e3 : (tA == cA) = false := by simp [HEQ.out]
  have e3n : (tA != cA) = true := by simp [HEQ.out]
  go_upto_region 10 with (fail)
  clear hT1 hC0 e3 e3n
  have e4 : (fi == cA) = true := beq_iff_eq.mpr HFI.out
  have e5 : (L1 == wrap64 (L2 + 1)) = true := beq_iff_eq.mpr HLL.out
  go_region_held3 (fun w_ => w_.cell? ⟨ga, 1, none⟩ = some (.slice X1 (prependV l1 cA).length y1) ∧ w_.cell? ⟨ga, 2, none⟩ = some (.int .u32 cN) ∧ w_.cell? ⟨ga, 3, none⟩ = some (.int .i64 (-1)) ∧ w_.cell? ⟨ga, 4, none⟩ = some (.int .i64 (-1)) ∧ w_.cell? ⟨gc, 0, none⟩ = some (.int .i64 cA) ∧ w_.cell? ⟨gc, 2, none⟩ = some (.int .u32 cN) ∧ w_.cell? ⟨gr, 4, none⟩ = some (.slice A1 l1.length c1)) (first | exact ⟨(blk_cell BKA8.out 1).trans rfl, (blk_cell BKA8.out 2).trans rfl, (blk_cell BKA8.out 3).trans rfl, (blk_cell BKA8.out 4).trans rfl, (blk_cell BKC8.out 0).trans rfl, (blk_cell BKC8.out 2).trans rfl, (blk_cell BKR8.out 4).trans rfl⟩ | exact ⟨(blk_cell BKA9.out 1).trans rfl, (blk_cell BKA9.out 2).trans rfl, (blk_cell BKA9.out 3).trans rfl, (blk_cell BKA9.out 4).trans rfl, (blk_cell BKC9.out 0).trans rfl, (blk_cell BKC9.out 2).trans rfl, (blk_cell BKR9.out 4).trans rfl⟩) (first | (refine goes_ Try.func9 (by kernel_rfl) rfl #[] (by rfl) rfl rfl (by (try simp only [List.map_toArray, List.map_cons, List.map_nil]); first | done | rfl) ?_; refine (answers_ _).mono ?_; rintro e w9 ⟨rfl, hb⟩; have BKA9 := Aside0.mk ((hb.block _ (blk_lt (blk_drew BKA8.out))).trans (blk_drew BKA8.out)); have BKR9 := Aside0.mk ((hb.block _ (blk_lt (blk_drew BKR8.out))).trans (blk_drew BKR8.out)); have BKC9 := Aside0.mk ((hb.block _ (blk_lt (blk_drew BKC8.out))).trans (blk_drew BKC8.out)); have HB9 := Aside0.mk (below_step (below_drew1 HB8.out) hb); have HW9 := Aside0.mk (below_step (below_drew1 HW8.out) hb); clear hb; have ha1 : w9.cell? ⟨ga, 1, none⟩ = some (.slice X1 (prependV l1 cA).length y1) := (blk_cell BKA9.out 1).trans rfl; have ha2 : w9.cell? ⟨ga, 2, none⟩ = some (.int .u32 cN) := (blk_cell BKA9.out 2).trans rfl; have ha3 : w9.cell? ⟨ga, 3, none⟩ = some (.int .i64 (-1)) := (blk_cell BKA9.out 3).trans rfl; have ha4 : w9.cell? ⟨ga, 4, none⟩ = some (.int .i64 (-1)) := (blk_cell BKA9.out 4).trans rfl; have hr4 : w9.cell? ⟨gr, 4, none⟩ = some (.slice A1 l1.length c1) := (blk_cell BKR9.out 4).trans rfl; have hc0 : w9.cell? ⟨gc, 0, none⟩ = some (.int .i64 cA) := (blk_cell BKC9.out 0).trans rfl; have hc2 : w9.cell? ⟨gc, 2, none⟩ = some (.int .u32 cN) := (blk_cell BKC9.out 2).trans rfl; refine ⟨_, rfl, ?_⟩) | (refine goes_ Try.func14 (by kernel_rfl) rfl #[.slice X1 (prependV l1 cA).length y1] (by rfl) rfl rfl (by (try simp only [List.map_toArray, List.map_cons, List.map_nil]); first | done | rfl) ?_; refine (interregnumref05_Length.calls k X1 y1 (prependV l1 cA) L1 _ ?g1 HY.out.1 HL1.out).mono ?_; (case g1 => exact (Kd.C_below HK1.out (by repeat (first | (with_reducible first | exact HW9.out | apply below_alloc | apply pw_below_drewN | apply below_drew1) | exact HW9.out)))); rintro e wh ⟨rfl, ⟨nd, rfl⟩⟩; refine ⟨_, rfl, ?_⟩) | (refine goes_ Try.func14 (by kernel_rfl) rfl #[.slice A1 l1.length c1] (by rfl) rfl rfl (by (try simp only [List.map_toArray, List.map_cons, List.map_nil]); first | done | rfl) ?_; refine (interregnumref05_Length.calls k A1 c1 l1 L2 _ ?g1 HC1.out HL2.out).mono ?_; (case g1 => exact (Kd.C_below HR1.out (by repeat (first | (with_reducible first | exact HB9.out | apply below_alloc | apply pw_below_drewN | apply below_drew1) | exact HB9.out)))); rintro e wh ⟨rfl, ⟨nd, rfl⟩⟩; refine ⟨_, rfl, ?_⟩))
  go_wp2
  go_ret
  have e6 := HFI.out
  have e7 := HLL.out
  refine ⟨?_, (by repeat (first | (with_reducible first | exact HB9.out | apply below_alloc | apply pw_below_drewN | apply below_drew1) | exact HB9.out))⟩
  subst e6

  first | rfl | (simp [*, i64_w]; done)
def canGo (l1 : List S69) (l5 : List Int) (l6 : List S73) : Prop := l1.length < 4000 ∧ (∀ y ∈ l1, slices_Clone_int_int.f y.f1 = some y.f1) ∧ (∀ y ∈ l1, y.f1.length < 4000) ∧ slices_Clone_uint32_uint32.f l5 = some l5 ∧ l6.length < 4000 ∧ (∀ r ∈ l6, bytes_Clone.f r.f2 = some r.f2)
instance canGo_dec (l1 : List S69) (l5 : List Int) (l6 : List S73) : Decidable (canGo l1 l5 l6) := by unfold canGo; infer_instance
def loopsOk (k : Nat) (cA tN tA pe : Int) (l1 : List S69) (pr st fr : Int) (al gd : Bool) : Prop :=
  stopB cA tN tA al true pe st fr = false → gd = true → pe ≠ tN ∧ (tA ≠ cA → (interregnumref05_First.f k (prependV l1 cA)).map Prod.fst = some cA ∧ ((interregnumref05_Length.f k l1).map fun L => wrap64 (L + 1)) = interregnumref05_Length.f k (prependV l1 cA) ∧ (interregnumref05_Length.f k l1).isSome = true) ∧ (tA = cA → (interregnumref05_First.f k l1).isSome = true ∧ interregnumref05_SamePath.f k l1 l1 = some true ∧ 0 ≤ (if pr = -1 then (100 : Int) else pr))
instance loopsOk_dec (k : Nat) (cA tN tA pe : Int) (l1 : List S69) (pr st fr : Int) (al gd : Bool) : Decidable (loopsOk k cA tN tA pe l1 pr st fr al gd) := by unfold loopsOk; infer_instance
def interregnumlaw16_ExportLoops.f (k : Nat) (cA cI cN cH cG cL cS cD tN tA : Int) (li lo : List S87) (pa pl pe o : Int) (l1 : List S69) (nx md pr : Int) (l5 : List Int) (l6 : List S73) (st fr : Int) : Option Bool :=
  (interregnumlaw16_small.f k o l1 nx md pr l5 l6).bind fun sm => if (!sm || decide (100 < (lo.length : Int))) = true then some true else (policy_Apply.f lo pa pl).bind fun p => (attr_Good.f k (outA cA cN tA o l1 nx md pr l5 l6).1 (outA cA cN tA o l1 nx md pr l5 l6).2.1 (outA cA cN tA o l1 nx md pr l5 l6).2.2.1 (outA cA cN tA o l1 nx md pr l5 l6).2.2.2.1 (outA cA cN tA o l1 nx md pr l5 l6).2.2.2.2.1 (outA cA cN tA o l1 nx md pr l5 l6).2.2.2.2.2.1 (outA cA cN tA o l1 nx md pr l5 l6).2.2.2.2.2.2).bind fun gd => if canGo l1 l5 l6 ∧ loopsOk k cA tN tA pe l1 pr st fr p.2 gd then some true else none
theorem interregnumlaw16_ExportLoops.calls (k : Nat) (cA cI cN cH cG cL cS cD tN tA : Int) (AI : Option Addr) (cIn : Nat) (li : List S87) (AO : Option Addr) (cOut : Nat) (lo : List S87) (pa pl pe o : Int) (A1 : Option Addr) (c1 : Nat) (l1 : List S69) (nx md pr : Int) (A5 : Option Addr) (c5 : Nat) (l5 : List Int) (A6 : Option Addr) (c6 : Nat) (l6 : List S73) (st fr : Int) (r : Bool) (w : World) (hr1_2 : Kd.C k87 w AI li.length li) (hc1_2 : li.length ≤ cIn) (hr1_3 : Kd.C k87 w AO lo.length lo) (hc1_3 : lo.length ≤ cOut) (hr2_4 : Kd.C k69 w A1 l1.length l1) (hc2_4 : l1.length ≤ c1) (hr2_8 : Kd.C (Kd.int .u32) w A5 l5.length l5) (hc2_8 : l5.length ≤ c5) (hr2_9 : Kd.C k73 w A6 l6.length l6) (hc2_9 : l6.length ≤ c6) (h : interregnumlaw16_ExportLoops.f k cA cI cN cH cG cL cS cD tN tA li lo pa pl pe o l1 nx md pr l5 l6 st fr = some r) :
    Calls Try.prog 4 #[.agg #[.int .i64 cA, .int .u32 cI, .int .u32 cN, .int .i64 cH, .int .i64 cG, .int .i64 cL, .int .i64 cS, .int .i64 cD], .agg #[.int .i64 tN, .int .i64 tA, .slice AI li.length cIn, .slice AO lo.length cOut], .agg #[.int .u32 pa, .int .i64 pl, .int .i64 pe, .int .i64 o, .slice A1 l1.length c1, .int .u32 nx, .int .i64 md, .int .i64 pr, .slice A5 l5.length c5, .slice A6 l6.length c6, .int .i64 st], .int .i64 fr] w fun e w' => e = .returned (.bool r) ∧ Below w.heap.size w w' := by
  unfold interregnumlaw16_ExportLoops.f at h
  obtain ⟨sm, e1, h⟩ := Option.bind_eq_some_iff.mp h
  by_cases hc : (!sm || decide (100 < (lo.length : Int))) = true
  · rw [if_pos hc] at h
    obtain rfl := Option.some.inj h
    exact loops_not k cA cI cN cH cG cL cS cD tN tA AI li.length cIn AO cOut lo pa pl pe o A1 c1 l1 nx md pr A5 c5 l5 A6 c6 l6 st fr sm w hr1_3 hc1_3 hr2_4 hc2_4 hr2_8 hc2_8 hr2_9 hc2_9 e1 hc
  · rw [if_neg hc] at h
    obtain ⟨⟨rp, al⟩, e2, h⟩ := Option.bind_eq_some_iff.mp h
    obtain ⟨gd, e3, h⟩ := Option.bind_eq_some_iff.mp h
    by_cases hok : canGo l1 l5 l6 ∧ loopsOk k cA tN tA pe l1 pr st fr al gd
    · rw [if_pos hok] at h
      obtain rfl := Option.some.inj h
      obtain ⟨hg, hk⟩ := hok
      have hc := Bool.not_eq_true _ ▸ hc
      rw [Bool.or_eq_false_iff] at hc
      obtain ⟨hs, hl⟩ := hc
      obtain rfl : sm = true := by cases sm with | true => rfl | false => cases hs
      unfold loopsOk at hk
      by_cases hst : (stopB cA tN tA al true pe st fr) = true
      · exact loops_no k cA cI cN cH cG cL cS cD tN tA AI li.length cIn AO cOut lo pa pl pe o A1 c1 l1 nx md pr A5 c5 l5 A6 c6 l6 st fr rp al gd w hr1_3 hc1_3 hr2_4 hc2_4 hr2_8 hc2_8 hr2_9 hc2_9 e1 hl e2 (fun hh => absurd (hst.symm.trans hh) (by decide)) (by unfold expV; rw [if_pos (Or.inl hst)])
      · have hst := Bool.not_eq_true _ ▸ hst
        have hgo := fun (_ : (stopB cA tN tA al true pe st fr) = false) => And.intro hg e3
        cases gd with
        | false => exact loops_no k cA cI cN cH cG cL cS cD tN tA AI li.length cIn AO cOut lo pa pl pe o A1 c1 l1 nx md pr A5 c5 l5 A6 c6 l6 st fr rp al false w hr1_3 hc1_3 hr2_4 hc2_4 hr2_8 hc2_8 hr2_9 hc2_9 e1 hl e2 hgo (by unfold expV; rw [if_pos (Or.inr rfl)])
        | true =>
          obtain ⟨q1, q2, q3⟩ := hk hst rfl
          have hx : expV (stopB cA tN tA al true pe st fr) true (outA cA cN tA o l1 nx md pr l5 l6) = ((outA cA cN tA o l1 nx md pr l5 l6).1, (outA cA cN tA o l1 nx md pr l5 l6).2.1, (outA cA cN tA o l1 nx md pr l5 l6).2.2.1, (outA cA cN tA o l1 nx md pr l5 l6).2.2.2.1, (outA cA cN tA o l1 nx md pr l5 l6).2.2.2.2.1, (outA cA cN tA o l1 nx md pr l5 l6).2.2.2.2.2.1, (outA cA cN tA o l1 nx md pr l5 l6).2.2.2.2.2.2, true) := by unfold expV; rw [if_neg (by rw [hst]; decide)]
          by_cases heq : tA = cA
          · obtain ⟨q4, q5, q6⟩ := q3 heq
            obtain ⟨⟨fi, fb⟩, q4⟩ := Option.isSome_iff_exists.mp q4
            have ho : (outA cA cN tA o l1 nx md pr l5 l6) = (o, l1, nx, md, if pr = -1 then 100 else pr, l5, l6) := by unfold outA; rw [if_pos heq]
            rw [ho] at hx
            exact loops_int k cA cI cN cH cG cL cS cD tN tA AI li.length cIn AO cOut lo pa pl pe o A1 c1 l1 nx md pr A5 c5 l5 A6 c6 l6 st fr rp al true (if pr = -1 then 100 else pr) fi fb w hr1_3 hc1_3 hr2_4 hc2_4 hr2_8 hc2_8 hr2_9 hc2_9 e1 hl e2 hgo (by rw [ho]; exact hx) heq q1 q6 q4 q5
          · obtain ⟨q4, q5, q6⟩ := q2 heq
            obtain ⟨⟨fi, fb⟩, q4, q7⟩ := Option.map_eq_some_iff.mp q4
            obtain ⟨L2, q6⟩ := Option.isSome_iff_exists.mp q6
            rw [q6] at q5
            have ho : (outA cA cN tA o l1 nx md pr l5 l6) = (o, prependV l1 cA, cN, -1, -1, l5, l6) := by unfold outA; rw [if_neg heq]
            rw [ho] at hx
            exact loops_ext k cA cI cN cH cG cL cS cD tN tA AI li.length cIn AO cOut lo pa pl pe o A1 c1 l1 nx md pr A5 c5 l5 A6 c6 l6 st fr rp al true fi (wrap64 (L2 + 1)) L2 fb w hr1_3 hc1_3 hr2_4 hc2_4 hr2_8 hc2_8 hr2_9 hc2_9 e1 hl e2 hgo (by rw [ho]; exact hx) heq q1 q7 q4 q5.symm q6 rfl
    · rw [if_neg hok] at h
      cases h


end Go.Proofs.Ytjdebhkdbdbepaa.PExportLoops
